/- Vaults: Shred, Drop of the reference, SameVault. (printed by gen_vc.py) -/
import Derived.Test.YteakoleceoclkaaVB
namespace Go.Proofs.Yteakoleceoclkaa
open Go.RowKit Go.Shelf
set_option linter.unusedSimpArgs false
set_option linter.unusedVariables false
theorem RdK.kt2 {w : World} {v : Value} {ks : List VK} (h : RdK w v ks) {j : Nat} (hj : j < ks.length) {x : VK} (hx : ks[j] = x) {l : List Nd} (hl : x.l = l) : RdT w x.s l := hl ▸ h.kt hj hx
theorem map_at {ks ms : List VK} (h : ks.map VK.p = ms.map VK.p) {i : Nat} (hi : i < ks.length) (hj : i < ms.length) {x y : VK} (hx : ks[i] = x) (hy : ms[i] = y) : x.o = y.o ∧ x.l = y.l := by
  have h1 : (ks.map VK.p)[i]? = (ms.map VK.p)[i]? := by rw [h]
  rw [List.getElem?_map, List.getElem?_map, List.getElem?_eq_getElem hi, List.getElem?_eq_getElem hj, hx, hy] at h1
  have h2 : x.p = y.p := by simpa using h1
  exact ⟨congrArg Prod.fst h2, congrArg Prod.snd h2⟩
theorem map_len {ks ms : List VK} (h : ks.map VK.p = ms.map VK.p) : ks.length = ms.length := by
  have := congrArg List.length h
  simpa using this
set_option maxRecDepth 100000 in
set_option maxHeartbeats 4000000 in
theorem samev_walk (ks ms : List VK) (ao bo : Option Addr) (cap bap : Nat) (sa po : List Nat) (hsa : Dg sa) (hpo : Dg po) (hp : ks.map VK.p = ms.map VK.p) (w : World) (ha : RdK w (.slice ao ks.length cap) ks) (hb : RdK w (.slice bo ms.length bap) ms) :
    Calls Try.prog 38 #[vval sa po (.slice ao ks.length cap), vval sa po (.slice bo ms.length bap)] w fun e w' => e = .returned (.bool true) ∧ w.grownBy w' none := by
  have hlen := ha.len
  have hml := map_len hp
  refine cx_enter Try.func38 rfl Try.ntmps38 rfl fun a0 sv0 => ?_
  have HG := World.grownBy.refl w none
  replace sv0 : Sv 63 [] [(0, vval sa po (.slice ao ks.length cap)), (1, vval sa po (.slice bo ms.length bap))] a0 := sv0
  refine wp_seq_k fun K1 k1 => ?_
  refine wp_region_lit ?_
  refine tl_box sv0 rfl rfl rfl rfl rfl rfl (tyVa hsa hpo (.slice ao ks.length cap) rfl) fun a2 w2 B2_2 eq_B2_2 g2 z2 HB2_2 sv2 => ?_
  have lo_B2_2 := nb_lo HG eq_B2_2
  have ap_ha_B2_2 := nb_ap (ha.lt) eq_B2_2
  have ap_hb_B2_2 := nb_ap (hb.lt) eq_B2_2
  replace ha := ha.kn g2
  replace hb := hb.kn g2
  replace HG := grown_trans HG g2
  replace sv2 : Sv 63 [] [(2, .pointer (some ⟨B2_2, 0, none⟩)), (0, vval sa po (.slice ao ks.length cap)), (1, vval sa po (.slice bo ms.length bap))] a2 := sv2
  refine tl_box sv2 rfl rfl rfl rfl rfl rfl (tyVa hsa hpo (.slice bo ms.length bap) rfl) fun a3 w3 B3_3 eq_B3_3 g3 z3 HB3_3 sv3 => ?_
  have ne_B3_3_B2_2 := nb_ne HB2_2 eq_B3_3
  have lo_B3_3 := nb_lo HG eq_B3_3
  have ap_ha_B3_3 := nb_ap (ha.lt) eq_B3_3
  have ap_hb_B3_3 := nb_ap (hb.lt) eq_B3_3
  replace HB2_2 := rw_kn g3 HB2_2
  replace ha := ha.kn g3
  replace hb := hb.kn g3
  replace HG := grown_trans HG g3
  replace sv3 : Sv 63 [] [(3, .pointer (some ⟨B3_3, 0, none⟩)), (2, .pointer (some ⟨B2_2, 0, none⟩)), (0, vval sa po (.slice ao ks.length cap)), (1, vval sa po (.slice bo ms.length bap))] a3 := sv3
  refine tl_assign sv3 rfl (.inl rfl) rfl rfl rfl rfl fun a4 sv4 => ?_
  replace sv4 : Sv 63 [] [(4, .bool false), (3, .pointer (some ⟨B3_3, 0, none⟩)), (2, .pointer (some ⟨B2_2, 0, none⟩)), (0, vval sa po (.slice ao ks.length cap)), (1, vval sa po (.slice bo ms.length bap))] a4 := sv4
  have sv5 : Sv 63 [] [(4, .bool false), (3, .pointer (some ⟨B3_3, 0, none⟩)), (2, .pointer (some ⟨B2_2, 0, none⟩))] a4 := ⟨sv4.1, sv4.2.1, sv4.2.2.1, sv4.2.2.2.1, sv4.2.2.2.2.1, trivial⟩
  refine tl_nil ?_
  refine k1 _ _ ?_
  refine wp_seq_k fun K6 k6 => ?_
  refine wp_seq_k fun K7 k7 => ?_
  refine wp_region_lit ?_
  refine sx_head (sv5.st w3) 21 [(6, Sp.is (.pointer (some ⟨B2_2, 0, none⟩))), (7, Sp.is (dval sa)), (8, Sp.is (.pointer (some ⟨B3_3, 0, none⟩))), (9, Sp.is (dval sa)), (10, Sp.is (.bool false)), (11, Sp.is (.bool false)), (12, Sp.is (.pointer (some ⟨B2_2, 32, none⟩))), (13, Sp.is (dval po)), (14, Sp.is (.pointer (some ⟨B3_3, 32, none⟩))), (15, Sp.is (dval po)), (16, Sp.is (.bool false)), (17, Sp.is (.bool false)), (18, Sp.is (.bool false)), (19, Sp.is (.pointer (some ⟨B2_2, 64, none⟩))), (20, Sp.is (.slice ao ks.length cap)), (21, Sp.is (.int .i64 ((ks.length : Nat)))), (22, Sp.is (.pointer (some ⟨B3_3, 64, none⟩))), (23, Sp.is (.slice bo ms.length bap)), (24, Sp.is (.int .i64 ((ms.length : Nat)))), (25, Sp.is (.bool false)), (26, Sp.is (.bool false))] rfl (by kernel_rfl) (by kernel_rfl) (by kernel_rfl)
    ⟨xf rfl rfl rfl rfl rfl (fun _ => by kernel_rfl) rfl, xp (i := 0) rfl rfl rfl rfl rfl (tyD sa hsa.1) HB2_2 rfl rfl rfl, xf rfl rfl rfl rfl rfl (fun _ => by kernel_rfl) rfl, xp (i := 0) rfl rfl rfl rfl rfl (tyD sa hsa.1) HB3_3 rfl rfl rfl, ox_bin rfl rfl trivial (oy rfl rfl) (oy rfl rfl) (fun _ => by simpa using (dig_eqb hsa hsa _ _ _).2) (fun _ => rfl), xm rfl rfl rfl rfl rfl, ox_field rfl rfl (gy rfl rfl rfl) (oy rfl rfl) (fun _ => by kernel_rfl) (fun _ => rfl), ox_load rfl rfl (gy rfl rfl rfl) (oy rfl rfl) (fun _ g => loadsAt (tyD po hpo.1) (range_part (L := [bv sa, bv po, [.slice ao ks.length cap]]) (i := 1) (row_of g HB2_2 (by simp)) rfl (by simp [bv_length, zero32_len, hsa.1, hpo.1]))) (fun _ => rfl), ox_field rfl rfl (gy rfl rfl rfl) (oy rfl rfl) (fun _ => by kernel_rfl) (fun _ => rfl), ox_load rfl rfl (gy rfl rfl rfl) (oy rfl rfl) (fun _ g => loadsAt (tyD po hpo.1) (range_part (L := [bv sa, bv po, [.slice bo ms.length bap]]) (i := 1) (row_of g HB3_3 (by simp)) rfl (by simp [bv_length, zero32_len, hsa.1, hpo.1]))) (fun _ => rfl), ox_bin rfl rfl (gy rfl rfl rfl) (oy rfl rfl) (oy rfl rfl) (fun _ => by simpa using (dig_eqb hpo hpo _ _ _).2) (fun _ => rfl), ox_pick rfl rfl trivial (oy rfl rfl) (oy rfl rfl) (fun _ => rfl), xm rfl rfl rfl rfl rfl, ox_field rfl rfl (gy rfl rfl rfl) (oy rfl rfl) (fun _ => by kernel_rfl) (fun _ => rfl), ox_load rfl rfl (gy rfl rfl rfl) (oy rfl rfl) (fun _ g => loadsAt (tyKs (.slice ao ks.length cap) rfl) (range_part (L := [bv sa, bv po, [.slice ao ks.length cap]]) (i := 2) (row_of g HB2_2 (by simp)) rfl (by simp [bv_length, zero32_len, hsa.1, hpo.1]))) (fun _ => rfl), ox_len (Try.underlying56) rfl rfl (gy rfl rfl rfl) (oy rfl rfl) (fun _ => rfl), ox_field rfl rfl (gy rfl rfl rfl) (oy rfl rfl) (fun _ => by kernel_rfl) (fun _ => rfl), ox_load rfl rfl (gy rfl rfl rfl) (oy rfl rfl) (fun _ g => loadsAt (tyKs (.slice bo ms.length bap) rfl) (range_part (L := [bv sa, bv po, [.slice bo ms.length bap]]) (i := 2) (row_of g HB3_3 (by simp)) rfl (by simp [bv_length, zero32_len, hsa.1, hpo.1]))) (fun _ => rfl), ox_len (Try.underlying56) rfl rfl (gy rfl rfl rfl) (oy rfl rfl) (fun _ => rfl), ox_bin rfl rfl (gy rfl rfl rfl) (oy rfl rfl) (oy rfl rfl) (fun _ => rn_neq (by rw [hml]; simp)) (fun _ => rfl), ox_pick rfl rfl trivial (oy rfl rfl) (oy rfl rfl) (fun _ => rfl), trivial⟩ fun a8 w8 g8 st8 => ?_
  obtain ⟨hn8, hd8, e8_6, e8_7, e8_8, e8_9, e8_10, e8_11, e8_12, e8_13, e8_14, e8_15, e8_16, e8_17, e8_18, e8_19, e8_20, e8_21, e8_22, e8_23, e8_24, e8_25, e8_26, e8_4, e8_3, e8_2, -⟩ := st8
  replace HB2_2 := rw_kn g8 HB2_2
  replace HB3_3 := rw_kn g8 HB3_3
  replace ha := ha.kn g8
  replace hb := hb.kn g8
  replace HG := grown_trans HG g8
  have sv8 : Sv 63 [] [(4, .bool false), (3, .pointer (some ⟨B3_3, 0, none⟩)), (2, .pointer (some ⟨B2_2, 0, none⟩)), (26, .bool false)] a8 := ⟨hn8, hd8, e8_4, e8_3, e8_2, e8_26, trivial⟩
  refine tl_nil ?_
  refine k7 _ _ ?_
  refine cx_ifF sv8 rfl rfl ?_
  refine wp_skip ?_
  refine k6 _ _ ?_
  refine wp_seq_k fun K9 k9 => ?_
  refine wp_seq_k fun K10 k10 => ?_
  refine wp_region_lit ?_
  refine tl_assign sv8 rfl (.inl rfl) rfl rfl rfl rfl fun a11 sv11 => ?_
  replace sv11 : Sv 63 [] [(5, .int .i64 0), (4, .bool false), (3, .pointer (some ⟨B3_3, 0, none⟩)), (2, .pointer (some ⟨B2_2, 0, none⟩)), (26, .bool false)] a11 := sv11
  refine tl_nil ?_
  refine k10 _ _ ?_
  refine cx_block fun Q12 x12 y12 r12 o12 => ?_
  refine wp_loop (fun a w' => ∃ (i : Nat), (i ≤ ks.length) ∧ Sv 63 [] [(5, .int .i64 ((i : Int))), (3, .pointer (some ⟨B3_3, 0, none⟩)), (2, .pointer (some ⟨B2_2, 0, none⟩)), (26, .bool false)] a ∧ w.grownBy w' none ∧ w'.heap[B2_2]? = some (.cells ([bv sa, bv po, [.slice ao ks.length cap]].flatten).toArray 58 (0, 0)) ∧ w'.heap[B3_3]? = some (.cells ([bv sa, bv po, [.slice bo ms.length bap]].flatten).toArray 58 (0, 0)) ∧ RdK w' (.slice ao ks.length cap) ks ∧ RdK w' (.slice bo ms.length bap) ms) (fun a _ => (ks.length - intOf (a.tmps.getD 5 undef)).toNat) ⟨0, Nat.zero_le _, ⟨sv11.1, sv11.2.1, sv11.2.2.1, sv11.2.2.2.2.1, sv11.2.2.2.2.2.1, sv11.2.2.2.2.2.2.1, trivial⟩, HG, HB2_2, HB3_3, ha, hb⟩ fun a13 w13 hI13 => ?_
  clear HB2_2
  clear HB3_3
  clear ha
  clear hb
  clear HG
  obtain ⟨i, hin, sv13, HG, HB2_2, HB3_3, ha, hb⟩ := hI13
  refine wp_seq_k fun K14 k14 => ?_
  refine wp_seq_k fun K15 k15 => ?_
  by_cases hi : i < ks.length
  · have hj : i < ms.length := by omega
    obtain ⟨x, hx_x⟩ : ∃ x, ks[i]'hi = x := ⟨_, rfl⟩
    obtain ⟨y, hx_y⟩ : ∃ x, ms[i]'hj = x := ⟨_, rfl⟩
    have hxy := map_at hp hi hj hx_x hx_y
    refine wp_region_lit ?_
    refine sx_head (sv13.st w13) 5 [(27, Sp.is (.int .i64 ((i : Int)))), (28, Sp.is (.pointer (some ⟨B2_2, 64, none⟩))), (29, Sp.is (.slice ao ks.length cap)), (30, Sp.is (.int .i64 ((ks.length : Nat)))), (31, Sp.is (.bool true))] rfl (by kernel_rfl) (by kernel_rfl) (by kernel_rfl)
      ⟨xm rfl rfl rfl rfl rfl, xf rfl rfl rfl rfl rfl (fun _ => by kernel_rfl) rfl, xp (i := 2) rfl rfl rfl rfl rfl (tyKs (.slice ao ks.length cap) rfl) HB2_2 rfl (by simp [bv_length, zero32_len, hsa.1, hpo.1]) rfl, ox_len (Try.underlying56) rfl rfl trivial (oy rfl rfl) (fun _ => rfl), ox_bin rfl rfl trivial (oy rfl rfl) (oy rfl rfl) (fun _ => rn_lss (decide_eq_true (by omega))) (fun _ => rfl), trivial⟩ fun a16 w16 g16 st16 => ?_
    obtain ⟨hn16, hd16, e16_27, e16_28, e16_29, e16_30, e16_31, e16_5, e16_3, e16_2, e16_26, -⟩ := st16
    replace HB2_2 := rw_kn g16 HB2_2
    replace HB3_3 := rw_kn g16 HB3_3
    replace ha := ha.kn g16
    replace hb := hb.kn g16
    replace HG := grown_trans HG g16
    have sv16 : Sv 63 [] [(5, .int .i64 ((i : Int))), (3, .pointer (some ⟨B3_3, 0, none⟩)), (2, .pointer (some ⟨B2_2, 0, none⟩)), (26, .bool false), (31, .bool true)] a16 := ⟨hn16, hd16, e16_5, e16_3, e16_2, e16_26, e16_31, trivial⟩
    refine tl_nil ?_
    refine k15 _ _ ?_
    refine cx_ifT sv16 rfl rfl ?_
    refine wp_skip ?_
    refine k14 _ _ ?_
    refine wp_seq_k fun K17 k17 => ?_
    refine cx_block fun Q18 x18 y18 r18 o18 => ?_
    refine wp_seq_k fun K19 k19 => ?_
    refine rx_all (sv16.st w16) (by kernel_rfl) [(34, Sp.is (.pointer (some ⟨B2_2, 64, none⟩))), (35, Sp.is (.slice ao ks.length cap)), (36, Sp.is (.int .i64 ((i : Int)))), (37, Sp.is (.pointer (some ⟨(bO ao), oO ao + i * 33, none⟩))), (38, Sp.is (.pointer (some ⟨(bO ao), oO ao + i * 33, none⟩))), (39, Sp.is (dval x.o)), (40, Sp.is (.pointer (some ⟨B3_3, 64, none⟩))), (41, Sp.is (.slice bo ms.length bap)), (42, Sp.is (.int .i64 ((i : Int)))), (43, Sp.is (.pointer (some ⟨(bO bo), oO bo + i * 33, none⟩))), (44, Sp.is (.pointer (some ⟨(bO bo), oO bo + i * 33, none⟩))), (45, Sp.is (dval y.o)), (46, Sp.is (.bool false)), (47, Sp.is (.bool false)), (48, Sp.is (.pointer (some ⟨B2_2, 64, none⟩))), (49, Sp.is (.slice ao ks.length cap)), (50, Sp.is (.int .i64 ((i : Int)))), (51, Sp.is (.pointer (some ⟨(bO ao), oO ao + i * 33, none⟩))), (52, Sp.is (.pointer (some ⟨(bO ao), oO ao + i * 33 + 32, none⟩))), (53, Sp.is (.agg #[VK.s x])), (54, Sp.is (.pointer (some ⟨B3_3, 64, none⟩))), (55, Sp.is (.slice bo ms.length bap)), (56, Sp.is (.int .i64 ((i : Int)))), (57, Sp.is (.pointer (some ⟨(bO bo), oO bo + i * 33, none⟩))), (58, Sp.is (.pointer (some ⟨(bO bo), oO bo + i * 33 + 32, none⟩))), (59, Sp.is (.agg #[VK.s y])), (60, Sp.is (.bool true)), (61, Sp.is (.bool false)), (62, Sp.is (.bool false))] rfl (by kernel_rfl) (by kernel_rfl) (by kernel_rfl)
      ⟨xf rfl rfl rfl rfl rfl (fun _ => by kernel_rfl) rfl, xp (i := 2) rfl rfl rfl rfl rfl (tyKs (.slice ao ks.length cap) rfl) HB2_2 rfl (by simp [bv_length, zero32_len, hsa.1, hpo.1]) rfl, xm rfl rfl rfl rfl rfl, ox_index rfl rfl trivial (oy rfl rfl) (oy rfl rfl) (fun w => ix_sl Try.underlying56 (by kernel_rfl) (ha.1.1) (by omega) (rfl) w) (fun _ => rfl), xf rfl rfl rfl rfl rfl (fun _ => by kernel_rfl) rfl, ox_load rfl rfl trivial (oy rfl rfl) (fun _ g => loadsAt (tyD x.o x.ho.1) (RdK.ownerX (ha.kn g) rfl hi hx_x)) (fun _ => rfl), xf rfl rfl rfl rfl rfl (fun _ => by kernel_rfl) rfl, xp (i := 2) rfl rfl rfl rfl rfl (tyKs (.slice bo ms.length bap) rfl) HB3_3 rfl (by simp [bv_length, zero32_len, hsa.1, hpo.1]) rfl, xm rfl rfl rfl rfl rfl, ox_index rfl rfl trivial (oy rfl rfl) (oy rfl rfl) (fun w => ix_sl Try.underlying56 (by kernel_rfl) (hb.1.1) (by omega) (rfl) w) (fun _ => rfl), xf rfl rfl rfl rfl rfl (fun _ => by kernel_rfl) rfl, ox_load rfl rfl trivial (oy rfl rfl) (fun _ g => loadsAt (tyD y.o y.ho.1) (RdK.ownerX (hb.kn g) rfl hj hx_y)) (fun _ => rfl), ox_bin rfl rfl trivial (oy rfl rfl) (oy rfl rfl) (fun _ => (dig_eqb x.ho y.ho _ _ _).2.trans (by rw [decide_eq_true (hxy.1)]; rfl)) (fun _ => rfl), xm rfl rfl rfl rfl rfl, ox_field rfl rfl (gy rfl rfl rfl) (oy rfl rfl) (fun _ => by kernel_rfl) (fun _ => rfl), ox_load rfl rfl (gy rfl rfl rfl) (oy rfl rfl) (fun _ g => loadsAt (tyKs (.slice ao ks.length cap) rfl) (range_part (L := [bv sa, bv po, [.slice ao ks.length cap]]) (i := 2) (row_of g HB2_2 (by simp)) rfl (by simp [bv_length, zero32_len, hsa.1, hpo.1]))) (fun _ => rfl), ox_move 5 50 (.inl rfl) rfl rfl (gy rfl rfl rfl) (fun _ _ h => h), ox_index rfl rfl (gy rfl rfl rfl) (oy rfl rfl) (oy rfl rfl) (fun w => ix_sl Try.underlying56 (by kernel_rfl) (ha.1.1) (by omega) (rfl) w) (fun _ => rfl), ox_field rfl rfl (gy rfl rfl rfl) (oy rfl rfl) (fun _ => by kernel_rfl) (fun _ => rfl), ox_load rfl rfl (gy rfl rfl rfl) (oy rfl rfl) (fun _ g => loadsAt (tyT (VK.s x) rfl) (RdK.treeX (ha.kn g) rfl hi hx_x)) (fun _ => rfl), ox_field rfl rfl (gy rfl rfl rfl) (oy rfl rfl) (fun _ => by kernel_rfl) (fun _ => rfl), ox_load rfl rfl (gy rfl rfl rfl) (oy rfl rfl) (fun _ g => loadsAt (tyKs (.slice bo ms.length bap) rfl) (range_part (L := [bv sa, bv po, [.slice bo ms.length bap]]) (i := 2) (row_of g HB3_3 (by simp)) rfl (by simp [bv_length, zero32_len, hsa.1, hpo.1]))) (fun _ => rfl), ox_move 5 56 (.inl rfl) rfl rfl (gy rfl rfl rfl) (fun _ _ h => h), ox_index rfl rfl (gy rfl rfl rfl) (oy rfl rfl) (oy rfl rfl) (fun w => ix_sl Try.underlying56 (by kernel_rfl) (hb.1.1) (by omega) (rfl) w) (fun _ => rfl), ox_field rfl rfl (gy rfl rfl rfl) (oy rfl rfl) (fun _ => by kernel_rfl) (fun _ => rfl), ox_load rfl rfl (gy rfl rfl rfl) (oy rfl rfl) (fun _ g => loadsAt (tyT (VK.s y) rfl) (RdK.treeX (hb.kn g) rfl hj hx_y)) (fun _ => rfl), ox_call (Sp.is (.bool true)) [.agg #[VK.s x], .agg #[VK.s y]] rfl rfl (gy rfl rfl rfl) ⟨(oy rfl rfl), (oy rfl rfl), trivial⟩ (is_on fun W g => sameTree_walk ((ha.kn g).kt hi hx_x) ((hb.kn g).kt2 hj hx_y hxy.2.symm)) (fun _ _ h => h) (enter_of Try.func26 (by kernel_rfl) rfl), ox_un rfl rfl (gy rfl rfl rfl) (oy rfl rfl) (fun _ => rn_not) (fun _ => rfl), ox_pick rfl rfl trivial (oy rfl rfl) (oy rfl rfl) (fun _ => rfl), trivial⟩ fun a20 w20 g20 st20 => ?_
    obtain ⟨hn20, hd20, e20_34, e20_35, e20_36, e20_37, e20_38, e20_39, e20_40, e20_41, e20_42, e20_43, e20_44, e20_45, e20_46, e20_47, e20_48, e20_49, e20_50, e20_51, e20_52, e20_53, e20_54, e20_55, e20_56, e20_57, e20_58, e20_59, e20_60, e20_61, e20_62, e20_5, e20_3, e20_2, e20_26, e20_31, -⟩ := st20
    replace HB2_2 := rw_kn g20 HB2_2
    replace HB3_3 := rw_kn g20 HB3_3
    replace ha := ha.kn g20
    replace hb := hb.kn g20
    replace HG := grown_trans HG g20
    have sv20 : Sv 63 [] [(5, .int .i64 ((i : Int))), (3, .pointer (some ⟨B3_3, 0, none⟩)), (2, .pointer (some ⟨B2_2, 0, none⟩)), (26, .bool false), (31, .bool true), (62, .bool false)] a20 := ⟨hn20, hd20, e20_5, e20_3, e20_2, e20_26, e20_31, e20_62, trivial⟩
    refine k19 _ _ ?_
    refine cx_ifF sv20 rfl rfl ?_
    refine wp_skip ?_
    refine y18 _ _ ?_
    refine k17 _ _ ?_
    refine wp_region_lit ?_
    refine sx_head (sv20.st w20) 2 [(32, Sp.is (.int .i64 ((i : Int)))), (33, Sp.is (.int .i64 (((i + 1 : Nat) : Int))))] rfl (by kernel_rfl) (by kernel_rfl) (by kernel_rfl)
      ⟨xm rfl rfl rfl rfl rfl, ox_bin rfl rfl trivial (oy rfl rfl) rfl (fun _ => rn_add (by rw [wrap_i64 (by omega) (by omega)]; omega)) (fun _ => rfl), trivial⟩ fun a21 w21 g21 st21 => ?_
    obtain ⟨hn21, hd21, e21_32, e21_33, e21_5, e21_3, e21_2, e21_26, e21_31, e21_62, -⟩ := st21
    replace HB2_2 := rw_kn g21 HB2_2
    replace HB3_3 := rw_kn g21 HB3_3
    replace ha := ha.kn g21
    replace hb := hb.kn g21
    replace HG := grown_trans HG g21
    have sv21 : Sv 63 [] [(5, .int .i64 ((i : Int))), (3, .pointer (some ⟨B3_3, 0, none⟩)), (2, .pointer (some ⟨B2_2, 0, none⟩)), (26, .bool false), (31, .bool true), (62, .bool false), (33, .int .i64 (((i + 1 : Nat) : Int)))] a21 := ⟨hn21, hd21, e21_5, e21_3, e21_2, e21_26, e21_31, e21_62, e21_33, trivial⟩
    refine tl_assign sv21 rfl (.inl rfl) rfl rfl rfl rfl fun a22 sv22 => ?_
    replace sv22 : Sv 63 [] [(5, .int .i64 (((i + 1 : Nat) : Int))), (3, .pointer (some ⟨B3_3, 0, none⟩)), (2, .pointer (some ⟨B2_2, 0, none⟩)), (26, .bool false), (31, .bool true), (62, .bool false), (33, .int .i64 (((i + 1 : Nat) : Int)))] a22 := sv22
    have sv23 : Sv 63 [] [(5, .int .i64 (((i + 1 : Nat) : Int))), (3, .pointer (some ⟨B3_3, 0, none⟩)), (2, .pointer (some ⟨B2_2, 0, none⟩)), (26, .bool false), (31, .bool true), (62, .bool false)] a22 := ⟨sv22.1, sv22.2.1, sv22.2.2.1, sv22.2.2.2.1, sv22.2.2.2.2.1, sv22.2.2.2.2.2.1, sv22.2.2.2.2.2.2.1, sv22.2.2.2.2.2.2.2.1, trivial⟩
    refine tl_nil ?_
    exact ⟨⟨i + 1, by omega, ⟨sv23.1, sv23.2.1, sv23.2.2.1, sv23.2.2.2.1, sv23.2.2.2.2.1, sv23.2.2.2.2.2.1, trivial⟩, HG, HB2_2, HB3_3, ha, hb⟩, by rw [show _ = _ from sv23.2.2.1, show _ = _ from sv13.2.2.1]; simp [intOf]; omega⟩
  · refine wp_region_lit ?_
    refine sx_head (sv13.st w13) 5 [(27, Sp.is (.int .i64 ((i : Int)))), (28, Sp.is (.pointer (some ⟨B2_2, 64, none⟩))), (29, Sp.is (.slice ao ks.length cap)), (30, Sp.is (.int .i64 ((ks.length : Nat)))), (31, Sp.is (.bool false))] rfl (by kernel_rfl) (by kernel_rfl) (by kernel_rfl)
      ⟨xm rfl rfl rfl rfl rfl, xf rfl rfl rfl rfl rfl (fun _ => by kernel_rfl) rfl, xp (i := 2) rfl rfl rfl rfl rfl (tyKs (.slice ao ks.length cap) rfl) HB2_2 rfl (by simp [bv_length, zero32_len, hsa.1, hpo.1]) rfl, ox_len (Try.underlying56) rfl rfl trivial (oy rfl rfl) (fun _ => rfl), ox_bin rfl rfl trivial (oy rfl rfl) (oy rfl rfl) (fun _ => rn_lss (decide_eq_false (by omega))) (fun _ => rfl), trivial⟩ fun a24 w24 g24 st24 => ?_
    obtain ⟨hn24, hd24, e24_27, e24_28, e24_29, e24_30, e24_31, e24_5, e24_3, e24_2, e24_26, -⟩ := st24
    replace HB2_2 := rw_kn g24 HB2_2
    replace HB3_3 := rw_kn g24 HB3_3
    replace ha := ha.kn g24
    replace hb := hb.kn g24
    replace HG := grown_trans HG g24
    have sv24 : Sv 63 [] [(5, .int .i64 ((i : Int))), (3, .pointer (some ⟨B3_3, 0, none⟩)), (2, .pointer (some ⟨B2_2, 0, none⟩)), (26, .bool false), (31, .bool false)] a24 := ⟨hn24, hd24, e24_5, e24_3, e24_2, e24_26, e24_31, trivial⟩
    refine tl_nil ?_
    refine k15 _ _ ?_
    refine cx_ifF sv24 rfl rfl ?_
    refine wp_exit ?_
    repeat refine then_exit ?_
    refine x12 _ _ ?_
    refine k9 _ _ ?_
    refine wp_seq_k fun K25 k25 => ?_
    refine wp_region_lit ?_
    refine tl_assign sv24 rfl (.inl rfl) rfl rfl rfl rfl fun a26 sv26 => ?_
    replace sv26 : Sv 63 [] [(4, .bool true), (5, .int .i64 ((i : Int))), (3, .pointer (some ⟨B3_3, 0, none⟩)), (2, .pointer (some ⟨B2_2, 0, none⟩)), (26, .bool false), (31, .bool false)] a26 := sv26
    refine tl_nil ?_
    refine k25 _ _ ?_
    refine wp_ret ?_
    repeat refine then_ret ?_
    refine cx_ret (fn := Try.f38) sv26 (res_tmp (p := 4) Try.results38 sv26 rfl rfl) ?_
    exact ⟨rfl, HG⟩
end Go.Proofs.Yteakoleceoclkaa
