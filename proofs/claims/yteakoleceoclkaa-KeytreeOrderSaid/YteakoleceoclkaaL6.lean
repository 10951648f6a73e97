/- Key trees: the law KeytreeOrder. (printed by gen_l6.py) -/
import Derived.Test.YteakoleceoclkaaSF
import Derived.Test.YteakoleceoclkaaSI
namespace Go.Proofs.Yteakoleceoclkaa
open Go.RowKit Go.Shelf
set_option linter.unusedSimpArgs false
set_option linter.unusedVariables false
theorem wrap_uint {x : Int} (h1 : 0 ≤ x) (h2 : x < 18446744073709551616) : IntKind.u64.wrap x = x := by simp [IntKind.wrap, IntKind.bits, IntKind.signed]; omega
theorem umod {m : Nat} (hm : 0 < m) (s : Int) : ∃ x : Nat, x < m ∧ (IntKind.u64.wrap s).tmod (m : Int) = (x : Int) := by
  have h0 : 0 ≤ IntKind.u64.wrap s := by simp [IntKind.wrap, IntKind.bits, IntKind.signed]; omega
  obtain ⟨u, hu⟩ := Int.eq_ofNat_of_zero_le h0
  refine ⟨u % m, Nat.mod_lt _ hm, ?_⟩
  rw [hu]
  rfl
set_option maxRecDepth 100000 in
set_option maxHeartbeats 4000000 in
theorem order_walk (k0 : List Nat) (hk : Dg k0) (l sw : List Int) (ao bo : Option Addr) (cap bcap : Nat) (w : World) (hv : SlB w 1 (.slice ao l.length cap) l.length (l.flatMap ce)) (hs : SlB w 1 (.slice bo sw.length bcap) sw.length (sw.flatMap ce)) :
    Calls Try.prog 6 #[dval k0, .slice ao l.length cap, .slice bo sw.length bcap] w fun e w' => e = .returned (.bool true) ∧ w.grownBy w' none := by
  obtain ⟨A, hA⟩ : ∃ A, difs 7 [] l = A := ⟨_, rfl⟩
  have hAA : ∀ a ∈ A, isAddr a = true := by rw [← hA]; exact difs_addr 7 l [] (by simp)
  have hAl : A.length ≤ 7 := by rw [← hA]; exact difs_len 7 l [] (by simp)
  obtain ⟨T, hT⟩ : ∃ T, tree k0 A = T := ⟨_, rfl⟩
  refine cx_enter Try.func6 rfl Try.ntmps6 rfl fun a0 sv0 => ?_
  have HG := World.grownBy.refl w none
  replace sv0 : Sv 94 [] [(0, dval k0), (1, .slice ao l.length cap), (2, .slice bo sw.length bcap)] a0 := sv0
  refine wp_seq_k fun K1 k1 => ?_
  refine wp_region_lit ?_
  refine tl_box sv0 rfl rfl rfl rfl rfl rfl (tyD k0 hk.1) fun a2 w2 B3_2 eq_B3_2 g2 z2 HB3_2 sv2 => ?_
  have lo_B3_2 := nb_lo HG eq_B3_2
  have ap_hv_B3_2 := nb_ap (hv.lt) eq_B3_2
  have ap_hs_B3_2 := nb_ap (hs.lt) eq_B3_2
  replace hv := hv.kn g2
  replace hs := hs.kn g2
  replace HG := grown_trans HG g2
  refine tl_as (v := .bool false) sv2 r6 fun a3 sv3 => ?_
  refine tl_nil ?_
  refine k1 _ _ ?_
  refine wp_seq_k fun K4 k4 => ?_
  refine wp_region_lit ?_
  refine sx_head (sv3.st w2) 2 [(16, Sp.is (.slice ao l.length cap)), (17, Sp.ints w2.heap.size A)] rfl (by kernel_rfl) (by kernel_rfl) (by kernel_rfl)
    ⟨ym r5, ox_call (Sp.ints w2.heap.size A) [.slice ao l.length cap, .int .i64 7] rfl rfl trivial ⟨(oy rfl rfl), rfl, trivial⟩ (by rw [← hA]; exact different_on (by decide) hv.1) (fun _ _ h => h) (enter_of Try.func28 (by kernel_rfl) rfl), trivial⟩ fun a5 w5 g5 st5 => ?_
  obtain ⟨hn5, hd5, e5_16, e5_17, e5_6, e5_3, e5_0, e5_1, e5_2, -⟩ := st5
  obtain ⟨ao6, cap6, e5_17q, ow6, wl6⟩ := e5_17
  have ap_ow6_B3_2 := fr_ap wl6 HB3_2
  have ap_hv_ow6 : ∀ k, fpS (.slice ao l.length cap) k → ¬ fpS (.slice ao6 A.length cap6) k := fun k hzr hk => absurd (hv.lt k hzr) (Nat.not_lt.2 (wl6 k hk))
  have ap_hs_ow6 : ∀ k, fpS (.slice bo sw.length bcap) k → ¬ fpS (.slice ao6 A.length cap6) k := fun k hzr hk => absurd (hs.lt k hzr) (Nat.not_lt.2 (wl6 k hk))
  have lo_ow6 : ∀ k, fpS (.slice ao6 A.length cap6) k → w.heap.size ≤ k := fun k hk => Nat.le_trans HG.size (wl6 k hk)
  replace HB3_2 := rw_kn g5 HB3_2
  replace hv := hv.kn g5
  replace hs := hs.kn g5
  replace HG := grown_trans HG g5
  have sv5 : Sv 94 [] [(6, _), (3, _), (0, _), (1, _), (2, _), (17, _)] a5 := ⟨hn5, hd5, e5_6, e5_3, e5_0, e5_1, e5_2, e5_17q, trivial⟩
  refine tl_as (v := .slice ao6 A.length cap6) sv5 r6 fun a7 sv7 => ?_
  refine tl_nil ?_
  refine k4 _ _ ?_
  refine wp_seq_k fun K8 k8 => ?_
  refine wp_region_lit ?_
  refine sx_head (sv7.st w5) 3 [(18, Sp.lit0 w5.heap.size 2), (19, Sp.is (.slice ao6 A.length cap6)), (20, Sp.row w5.heap.size 2 1 A.length ((A.flatMap ce)))] rfl (by kernel_rfl) (by kernel_rfl) (by kernel_rfl)
    ⟨ox_lit0 (t := 0) rfl trivial (Nat.le_refl _) (fun a w => by kernel_rfl) (fun _ _ h => h), ym r5, ox_app0 (news := (A.flatMap ce)) i64sT rfl rfl trivial rfl (fun _ _ h => h) (oy rfl rfl) (fun _ g => (Sl.of_own (ow6.kn g))) (ic_one A) (by omega) (Nat.le_refl _) (fun _ _ h => h), trivial⟩ fun a9 w9 g9 st9 => ?_
  obtain ⟨hn9, hd9, e9_18, e9_19, e9_20, e9_7, e9_6, e9_3, e9_0, e9_1, e9_2, e9_17, -⟩ := st9
  obtain ⟨ao10, cap10, e9_20q, ow10, fr10⟩ := e9_20
  have ap_ow10_B3_2 := fr_ap fr10 HB3_2
  have ap_hv_ow10 : ∀ k, fpS (.slice ao l.length cap) k → ¬ fpS (.slice ao10 A.length cap10) k := fun k hzr hk => absurd (hv.lt k hzr) (Nat.not_lt.2 (fr10 k hk))
  have ap_hs_ow10 : ∀ k, fpS (.slice bo sw.length bcap) k → ¬ fpS (.slice ao10 A.length cap10) k := fun k hzr hk => absurd (hs.lt k hzr) (Nat.not_lt.2 (fr10 k hk))
  have ap_ow10_ow6 : ∀ k, fpS (.slice ao10 A.length cap10) k → ¬ fpS (.slice ao6 A.length cap6) k := fun k hk hzr => absurd (Own.ltS ow6 k hzr) (Nat.not_lt.2 (fr10 k hk))
  have ap_ow6_ow10 : ∀ k, fpS (.slice ao6 A.length cap6) k → ¬ fpS (.slice ao10 A.length cap10) k := fun k hzr hk => absurd (Own.ltS ow6 k hzr) (Nat.not_lt.2 (fr10 k hk))
  have lo_ow10 : ∀ k, fpS (.slice ao10 A.length cap10) k → w.heap.size ≤ k := fun k hk => Nat.le_trans HG.size (fr10 k hk)
  replace HB3_2 := rw_kn g9 HB3_2
  replace hv := hv.kn g9
  replace hs := hs.kn g9
  replace ow6 := ow6.kn g9
  replace HG := grown_trans HG g9
  have sv9 : Sv 94 [] [(7, _), (6, _), (3, _), (0, _), (1, _), (2, _), (17, _), (20, _)] a9 := ⟨hn9, hd9, e9_7, e9_6, e9_3, e9_0, e9_1, e9_2, e9_17, e9_20q, trivial⟩
  refine tl_as (v := .slice ao10 A.length cap10) sv9 r6 fun a11 sv11 => ?_
  refine tl_nil ?_
  refine k8 _ _ ?_
  refine wp_seq_k fun K12 k12 => ?_
  refine wp_seq_k fun K13 k13 => ?_
  refine wp_region_lit ?_
  refine tl_as (v := .int .i64 0) sv11 r6 fun a14 sv14 => ?_
  refine tl_nil ?_
  refine k13 _ _ ?_
  refine cx_block fun Q15 x15 y15 r15 o15 => ?_
  refine wp_loop (fun a w' => ∃ (j : Nat) (bl : List Int), (j ≤ 20) ∧ (bl.length = A.length) ∧ (∀ a, a ∈ bl ↔ a ∈ A) ∧ Sv 94 [] [(9, .int .i64 ((j : Int))), (8, .slice ao10 A.length cap10), (7, .slice ao6 A.length cap6), (6, .bool false), (3, pt B3_2), (0, dval k0), (1, .slice ao l.length cap), (2, .slice bo sw.length bcap), (17, .slice ao6 A.length cap6), (20, .slice ao10 A.length cap10)] a ∧ w.grownBy w' none ∧ w'.heap[B3_2]? = some (.cells (bv k0).toArray 29 (0, 0)) ∧ SlB w' 1 (.slice ao l.length cap) l.length (l.flatMap ce) ∧ SlB w' 1 (.slice bo sw.length bcap) sw.length (sw.flatMap ce) ∧ Own w' 2 1 (.slice ao6 A.length cap6) A.length (A.flatMap ce) ∧ Own w' 2 1 (.slice ao10 A.length cap10) A.length (bl.flatMap ce) ∧ (∀ k, fpS (.slice ao10 A.length cap10) k → k ≠ B3_2) ∧ (∀ k, fpS (.slice ao l.length cap) k → ¬ fpS (.slice ao10 A.length cap10) k) ∧ (∀ k, fpS (.slice bo sw.length bcap) k → ¬ fpS (.slice ao10 A.length cap10) k) ∧ (∀ k, fpS (.slice ao6 A.length cap6) k → ¬ fpS (.slice ao10 A.length cap10) k) ∧ (∀ k, fpS (.slice ao10 A.length cap10) k → ¬ fpS (.slice ao6 A.length cap6) k) ∧ (∀ k, fpS (.slice ao10 A.length cap10) k → w.heap.size ≤ k)) (fun a _ => (20 - intOf (a.tmps.getD 9 undef)).toNat) ⟨0, A, by omega, rfl, fun a => Iff.rfl, ⟨sv14.1, sv14.2.1, sv14.2.2.1, sv14.2.2.2.1, sv14.2.2.2.2.1, sv14.2.2.2.2.2.1, sv14.2.2.2.2.2.2.1, sv14.2.2.2.2.2.2.2.1, sv14.2.2.2.2.2.2.2.2.1, sv14.2.2.2.2.2.2.2.2.2.1, sv14.2.2.2.2.2.2.2.2.2.2.1, sv14.2.2.2.2.2.2.2.2.2.2.2.1, trivial⟩, HG, HB3_2, hv, hs, ow6, ow10, ap_ow10_B3_2, ap_hv_ow10, ap_hs_ow10, ap_ow6_ow10, ap_ow10_ow6, lo_ow10⟩ fun a16 w16 hI16 => ?_
  clear HB3_2
  clear hv
  clear hs
  clear ow6
  clear ow10
  clear HG
  obtain ⟨j, bl, hj, hbl, hmem, sv16, HG, HB3_2, hv, hs, ow6, ow10, ap_ow10_B3_2, ap_hv_ow10, ap_hs_ow10, ap_ow6_ow10, ap_ow10_ow6, lo_ow10⟩ := hI16
  refine wp_seq_k fun K17 k17 => ?_
  refine wp_seq_k fun K18 k18 => ?_
  rcases (show (j + 1 < sw.length ∧ j < 20 ∧ 0 < A.length) ∨ (j + 1 < sw.length ∧ j < 20 ∧ ¬ 0 < A.length) ∨ (j + 1 < sw.length ∧ ¬ j < 20) ∨ ¬ j + 1 < sw.length by omega) with ⟨c1, c2, c3⟩ | ⟨c1, c2, c3⟩ | ⟨c1, c2⟩ | c1
  · obtain ⟨s1, hx_s1⟩ : ∃ x, sw[j]'(by omega) = x := ⟨_, rfl⟩
    obtain ⟨s2, hx_s2⟩ : ∃ x, sw[(j + 1)]'(by omega) = x := ⟨_, rfl⟩
    obtain ⟨x1, hx1, ex1⟩ : ∃ x : Nat, x < A.length ∧ (IntKind.u64.wrap s1).tmod (A.length : Int) = (x : Int) := umod c3 s1
    obtain ⟨y1, hy1, ey1⟩ : ∃ x : Nat, x < A.length ∧ (IntKind.u64.wrap s2).tmod (A.length : Int) = (x : Int) := umod c3 s2
    obtain ⟨v1, hx_v1⟩ : ∃ x, bl[x1]'(by omega) = x := ⟨_, rfl⟩
    obtain ⟨v2, hx_v2⟩ : ∃ x, bl[y1]'(by omega) = x := ⟨_, rfl⟩
    refine wp_region_lit ?_
    refine sx_hv sv16 14 [(21, .int .i64 ((j : Int))), (22, .int .i64 (((j + 1 : Nat) : Int))), (23, .slice bo sw.length bcap), (24, .int .i64 ((sw.length : Nat))), (25, .bool true), (26, .bool true), (27, .int .i64 ((j : Int))), (28, .bool true), (29, .bool true), (30, .bool true), (31, .slice ao10 A.length cap10), (32, .int .i64 ((A.length : Nat))), (33, .bool true), (34, .bool true)]
      ⟨ym r5, ybc r6 (fun _ => rn_add (by rw [wrap_i64 (by omega) (by omega)]; omega)), ym r5, ox_len (Try.underlying43) rfl rfl trivial (oy rfl rfl) (fun _ => rfl), ybt r7 (fun _ => rn_lss (decide_eq_true (by omega))), ym r5, ox_move 9 27 (.inl rfl) rfl rfl (gy rfl rfl rfl) (fun _ _ h => h), ox_bin rfl rfl (gy rfl rfl rfl) (oy rfl rfl) rfl (fun _ => rn_lss (decide_eq_true (by omega))) (fun _ => rfl), ox_pick rfl rfl trivial (oy rfl rfl) (oy rfl rfl) (fun _ => rfl), ym r5, ox_move 8 31 (.inl rfl) rfl rfl (gy rfl rfl rfl) (fun _ _ h => h), ox_len (Try.underlying37) rfl rfl (gy rfl rfl rfl) (oy rfl rfl) (fun _ => rfl), ox_bin rfl rfl (gy rfl rfl rfl) (oy rfl rfl) rfl (fun _ => rn_gtr (decide_eq_true (by omega))) (fun _ => rfl), ox_pick rfl rfl trivial (oy rfl rfl) (oy rfl rfl) (fun _ => rfl), trivial⟩ fun a19 w19 g19 sv19 => ?_
    refine tl_nil ?_
    refine k18 _ _ ?_
    refine cx_ifT sv19 rfl rfl ?_
    refine wp_skip ?_
    refine k17 _ _ ?_
    refine wp_seq_k fun K20 k20 => ?_
    refine cx_block fun Q21 x21 y21 r21 o21 => ?_
    refine wp_seq_k fun K22 k22 => ?_
    replace HB3_2 := rw_kn g19 HB3_2
    replace hv := hv.kn g19
    replace hs := hs.kn g19
    replace ow6 := ow6.kn g19
    replace ow10 := ow10.kn g19
    replace HG := grown_trans HG g19
    refine rx_av sv19 [(37, .slice bo sw.length bcap), (38, .int .i64 ((j : Int))), (39, pk ((bO bo)) (oO bo + j * 1)), (40, .int .i64 s1), (41, .int .u64 ((IntKind.u64.wrap s1))), (42, .slice ao10 A.length cap10), (43, .int .i64 ((A.length : Nat))), (44, .int .u64 ((A.length : Nat))), (45, .int .u64 ((x1 : Int))), (46, .slice bo sw.length bcap), (47, .int .i64 ((j : Int))), (48, .int .i64 (((j + 1 : Nat) : Int))), (49, pk ((bO bo)) (oO bo + (j + 1) * 1)), (50, .int .i64 s2), (51, .int .u64 ((IntKind.u64.wrap s2))), (52, .slice ao10 A.length cap10), (53, .int .i64 ((A.length : Nat))), (54, .int .u64 ((A.length : Nat))), (55, .int .u64 ((y1 : Int))), (10, .int .u64 ((x1 : Int))), (11, .int .u64 ((y1 : Int)))]
      ⟨ym r5, ym r5, ox_index rfl rfl trivial (oy rfl rfl) (oy rfl rfl) (fun w => ix_sl Try.underlying43 (by kernel_rfl) (hs.1) (by omega) (rfl) w) (fun _ => rfl), ox_load rfl rfl trivial (oy rfl rfl) (fun _ g => loadsAt (tyInt' s1) (by rw [← hx_s1]; exact el_range (hs.kn g).1 ce_len (by omega) (by decide))) (fun _ => rfl), ox_conv rfl rfl trivial (oy rfl rfl) (fun _ => rn_conv Try.underlying3 Try.underlying45 rfl) (fun _ => rfl), ym r5, ox_len (Try.underlying37) rfl rfl trivial (oy rfl rfl) (fun _ => rfl), ox_conv rfl rfl trivial (oy rfl rfl) (fun _ => rn_conv Try.underlying3 Try.underlying45 (wrap_uint (by omega) (by omega))) (fun _ => rfl), ybt r7 (fun _ => rn_rem (by omega) ex1), ym r5, ym r5, ybc r6 (fun _ => rn_add (by rw [wrap_i64 (by omega) (by omega)]; omega)), ox_index rfl rfl trivial (oy rfl rfl) (oy rfl rfl) (fun w => ix_sl Try.underlying43 (by kernel_rfl) (hs.1) (by omega) (rfl) w) (fun _ => rfl), ox_load rfl rfl trivial (oy rfl rfl) (fun _ g => loadsAt (tyInt' s2) (by rw [← hx_s2]; exact el_range (hs.kn g).1 ce_len (by omega) (by decide))) (fun _ => rfl), ox_conv rfl rfl trivial (oy rfl rfl) (fun _ => rn_conv Try.underlying3 Try.underlying45 rfl) (fun _ => rfl), ym r5, ox_len (Try.underlying37) rfl rfl trivial (oy rfl rfl) (fun _ => rfl), ox_conv rfl rfl trivial (oy rfl rfl) (fun _ => rn_conv Try.underlying3 Try.underlying45 (wrap_uint (by omega) (by omega))) (fun _ => rfl), ybt r7 (fun _ => rn_rem (by omega) ey1), ox_move 45 10 (.inr rfl) rfl rfl trivial (fun _ _ h => h), ox_move 55 11 (.inr rfl) rfl rfl trivial (fun _ _ h => h), trivial⟩ fun a23 w23 g23 sv23 => ?_
    refine k22 _ _ ?_
    replace HB3_2 := rw_kn g23 HB3_2
    replace hv := hv.kn g23
    replace hs := hs.kn g23
    replace ow6 := ow6.kn g23
    replace ow10 := ow10.kn g23
    replace HG := grown_trans HG g23
    refine rx_tail (sv23.st w23) (by kernel_rfl) 13 [(56, Sp.is (.slice ao10 A.length cap10)), (57, Sp.is (.int .u64 ((x1 : Int)))), (58, Sp.is (.slice ao10 A.length cap10)), (59, Sp.is (.int .u64 ((y1 : Int)))), (60, Sp.is (.slice ao10 A.length cap10)), (61, Sp.is (.int .u64 ((y1 : Int)))), (62, Sp.is (pk ((bO ao10)) (oO ao10 + y1 * 1))), (63, Sp.is (.int .i64 v2)), (64, Sp.is (.slice ao10 A.length cap10)), (65, Sp.is (.int .u64 ((x1 : Int)))), (66, Sp.is (pk ((bO ao10)) (oO ao10 + x1 * 1))), (67, Sp.is (.int .i64 v1)), (68, Sp.is (pk ((bO ao10)) (oO ao10 + x1 * 1)))] rfl (by kernel_rfl) (by kernel_rfl) (by kernel_rfl) [2, 3] (by kernel_rfl)
      ⟨ym r5, ym r5, ym r5, ym r5, ym r5, ym r5, ox_index rfl rfl trivial (oy rfl rfl) (oy rfl rfl) (fun w => ix_sl Try.underlying37 (by kernel_rfl) ((Sl.of_own ow10)) (by omega) (rfl) w) (fun _ => rfl), ox_load rfl rfl trivial (oy rfl rfl) (fun _ g => loadsAt (tyInt64 v2) (by rw [← hx_v2]; exact el_range (Sl.of_own (ow10.kn g)) ce_len (by omega) (by decide))) (fun _ => rfl), ym r5, ym r5, ox_index rfl rfl trivial (oy rfl rfl) (oy rfl rfl) (fun w => ix_sl Try.underlying37 (by kernel_rfl) ((Sl.of_own ow10)) (by omega) (rfl) w) (fun _ => rfl), ox_load rfl rfl trivial (oy rfl rfl) (fun _ g => loadsAt (tyInt64 v1) (by rw [← hx_v1]; exact el_range (Sl.of_own (ow10.kn g)) ce_len (by omega) (by decide))) (fun _ => rfl), ox_index rfl rfl trivial (oy rfl rfl) (oy rfl rfl) (fun w => ix_sl Try.underlying37 (by kernel_rfl) ((Sl.of_own ow10)) (by omega) (rfl) w) (fun _ => rfl), trivial⟩ ⟨fun o ho => by obtain rfl := Option.some.inj ho; exact px_move 8 58 (.inl rfl) rfl rfl trivial (fun _ _ h => h), fun o ho => by obtain rfl := Option.some.inj ho; exact px_move 11 59 (.inl rfl) rfl rfl trivial (fun _ _ h => h), trivial⟩
      [] (by kernel_rfl) trivial ⟨.inl rfl, .inl rfl, .inl rfl, .inl rfl, .inl rfl, .inl rfl, .inl rfl, .inl rfl, .inl rfl, .inl rfl, .inl rfl, .inl rfl, .inl rfl, trivial⟩ (by kernel_rfl) fun a24 w24 g24 st24 nd24 => ?_
    obtain ⟨hn24, hd24, e24_56, e24_57, e24_58, e24_59, e24_60, e24_61, e24_62, e24_63, e24_64, e24_65, e24_66, e24_67, e24_68, e24_37, e24_38, e24_39, e24_40, e24_41, e24_42, e24_43, e24_44, e24_45, e24_46, e24_47, e24_48, e24_49, e24_50, e24_51, e24_52, e24_53, e24_54, e24_55, e24_10, e24_11, e24_21, e24_22, e24_23, e24_24, e24_25, e24_26, e24_27, e24_28, e24_29, e24_30, e24_31, e24_32, e24_33, e24_34, e24_9, e24_8, e24_7, e24_6, e24_3, e24_0, e24_1, e24_2, e24_17, e24_20, -⟩ := st24
    have sv24 : Sv 94 [] [(37, _), (38, _), (39, _), (40, _), (41, _), (42, _), (43, _), (44, _), (45, _), (46, _), (47, _), (48, _), (49, _), (50, _), (51, _), (52, _), (53, _), (54, _), (55, _), (10, _), (11, _), (21, _), (22, _), (23, _), (24, _), (25, _), (26, _), (27, _), (28, _), (29, _), (30, _), (31, _), (32, _), (33, _), (34, _), (9, _), (8, _), (7, _), (6, _), (3, _), (0, _), (1, _), (2, _), (17, _), (20, _), (58, _), (59, _), (63, _), (67, _), (68, _)] a24 := ⟨hn24, hd24, e24_37, e24_38, e24_39, e24_40, e24_41, e24_42, e24_43, e24_44, e24_45, e24_46, e24_47, e24_48, e24_49, e24_50, e24_51, e24_52, e24_53, e24_54, e24_55, e24_10, e24_11, e24_21, e24_22, e24_23, e24_24, e24_25, e24_26, e24_27, e24_28, e24_29, e24_30, e24_31, e24_32, e24_33, e24_34, e24_9, e24_8, e24_7, e24_6, e24_3, e24_0, e24_1, e24_2, e24_17, e24_20, e24_58, e24_59, e24_63, e24_67, e24_68, trivial⟩
    replace HB3_2 := rw_kn g24 HB3_2
    replace hv := hv.kn g24
    replace hs := hs.kn g24
    replace ow6 := ow6.kn g24
    replace ow10 := ow10.kn g24
    replace HG := grown_trans HG g24
    refine tl_storeEW (c := ce) (el := v2) sv24 rfl rfl rfl rfl rfl rfl rfl (tyInt64 v2) ow10 ce_len (by decide) (by first | omega | (simp only [List.length_set]; omega)) rfl fun w25 g25 h25 => ?_
    replace HB3_2 := row_of g25 HB3_2 (fun e => ap_ow10_B3_2 _ (row_fp (j := x1) ow10 (by omega) rfl) (Option.some.inj e).symm)
    replace hv := hv.offR g25 (fun k hk e => ap_hv_ow10 k hk (row_fp (j := x1) ow10 (by omega) e))
    replace hs := hs.offR g25 (fun k hk e => ap_hs_ow10 k hk (row_fp (j := x1) ow10 (by omega) e))
    replace ow6 := ow6.offR g25 (fun k hk e => ap_ow6_ow10 k hk (row_fp (j := x1) ow10 (by omega) e))
    replace HG := grown_from HG g25 fun k e => lo_ow10 k (row_fp (j := x1) ow10 (by omega) e)
    replace ow10 := h25
    refine sx_hv sv24 1 [(69, pk ((bO ao10)) (oO ao10 + y1 * 1))]
      ⟨ox_index rfl rfl trivial (oy rfl rfl) (oy rfl rfl) (fun w => ix_sl Try.underlying37 (by kernel_rfl) ((Sl.of_own ow10)) (by omega) (rfl) w) (fun _ => rfl), trivial⟩ fun a26 w26 g26 sv26 => ?_
    replace HB3_2 := rw_kn g26 HB3_2
    replace hv := hv.kn g26
    replace hs := hs.kn g26
    replace ow6 := ow6.kn g26
    replace ow10 := ow10.kn g26
    replace HG := grown_trans HG g26
    refine tl_storeEW (c := ce) (el := v1) sv26 rfl rfl rfl rfl rfl rfl rfl (tyInt64 v1) ow10 ce_len (by decide) (by first | omega | (simp only [List.length_set]; omega)) rfl fun w27 g27 h27 => ?_
    replace HB3_2 := row_of g27 HB3_2 (fun e => ap_ow10_B3_2 _ (row_fp (j := y1) ow10 (by omega) rfl) (Option.some.inj e).symm)
    replace hv := hv.offR g27 (fun k hk e => ap_hv_ow10 k hk (row_fp (j := y1) ow10 (by omega) e))
    replace hs := hs.offR g27 (fun k hk e => ap_hs_ow10 k hk (row_fp (j := y1) ow10 (by omega) e))
    replace ow6 := ow6.offR g27 (fun k hk e => ap_ow6_ow10 k hk (row_fp (j := y1) ow10 (by omega) e))
    replace HG := grown_from HG g27 fun k e => lo_ow10 k (row_fp (j := y1) ow10 (by omega) e)
    replace ow10 := h27
    refine tl_nil ?_
    refine y21 _ _ ?_
    refine k20 _ _ ?_
    refine wp_region_lit ?_
    refine sx_hv sv26 2 [(35, .int .i64 ((j : Int))), (36, .int .i64 (((j + 1 : Nat) : Int)))]
      ⟨ym r5, ybc r6 (fun _ => rn_add (by rw [wrap_i64 (by omega) (by omega)]; omega)), trivial⟩ fun a28 w28 g28 sv28 => ?_
    refine tl_as (v := .int .i64 (((j + 1 : Nat) : Int))) sv28 r6 fun a29 sv29 => ?_
    refine tl_nil ?_
    replace HB3_2 := rw_kn g28 HB3_2
    replace hv := hv.kn g28
    replace hs := hs.kn g28
    replace ow6 := ow6.kn g28
    replace ow10 := ow10.kn g28
    replace HG := grown_trans HG g28
    exact ⟨⟨j + 1, (bl.set x1 v2).set y1 v1, by omega, by rw [List.length_set, List.length_set]; exact hbl, fun a => by rw [← hx_v1, ← hx_v2]; exact (swap_mem (by omega) (by omega) a).trans (hmem a), ⟨sv29.1, sv29.2.1, sv29.2.2.1, sv29.2.2.2.2.2.2.2.2.2.2.2.2.2.2.2.2.2.2.2.2.2.2.2.2.2.2.2.2.2.2.2.2.2.2.2.2.2.2.2.2.2.1, sv29.2.2.2.2.2.2.2.2.2.2.2.2.2.2.2.2.2.2.2.2.2.2.2.2.2.2.2.2.2.2.2.2.2.2.2.2.2.2.2.2.2.2.1, sv29.2.2.2.2.2.2.2.2.2.2.2.2.2.2.2.2.2.2.2.2.2.2.2.2.2.2.2.2.2.2.2.2.2.2.2.2.2.2.2.2.2.2.2.1, sv29.2.2.2.2.2.2.2.2.2.2.2.2.2.2.2.2.2.2.2.2.2.2.2.2.2.2.2.2.2.2.2.2.2.2.2.2.2.2.2.2.2.2.2.2.1, sv29.2.2.2.2.2.2.2.2.2.2.2.2.2.2.2.2.2.2.2.2.2.2.2.2.2.2.2.2.2.2.2.2.2.2.2.2.2.2.2.2.2.2.2.2.2.1, sv29.2.2.2.2.2.2.2.2.2.2.2.2.2.2.2.2.2.2.2.2.2.2.2.2.2.2.2.2.2.2.2.2.2.2.2.2.2.2.2.2.2.2.2.2.2.2.1, sv29.2.2.2.2.2.2.2.2.2.2.2.2.2.2.2.2.2.2.2.2.2.2.2.2.2.2.2.2.2.2.2.2.2.2.2.2.2.2.2.2.2.2.2.2.2.2.2.1, sv29.2.2.2.2.2.2.2.2.2.2.2.2.2.2.2.2.2.2.2.2.2.2.2.2.2.2.2.2.2.2.2.2.2.2.2.2.2.2.2.2.2.2.2.2.2.2.2.2.1, sv29.2.2.2.2.2.2.2.2.2.2.2.2.2.2.2.2.2.2.2.2.2.2.2.2.2.2.2.2.2.2.2.2.2.2.2.2.2.2.2.2.2.2.2.2.2.2.2.2.2.1, trivial⟩, HG, HB3_2, hv, hs, ow6, ow10, ap_ow10_B3_2, ap_hv_ow10, ap_hs_ow10, ap_ow6_ow10, ap_ow10_ow6, lo_ow10⟩, by rw [show _ = _ from sv29.2.2.1, show _ = _ from sv16.2.2.1]; simp [intOf]; omega⟩
  · refine wp_region_lit ?_
    refine sx_hv sv16 14 [(21, .int .i64 ((j : Int))), (22, .int .i64 (((j + 1 : Nat) : Int))), (23, .slice bo sw.length bcap), (24, .int .i64 ((sw.length : Nat))), (25, .bool true), (26, .bool true), (27, .int .i64 ((j : Int))), (28, .bool true), (29, .bool true), (30, .bool true), (31, .slice ao10 A.length cap10), (32, .int .i64 ((A.length : Nat))), (33, .bool false), (34, .bool false)]
      ⟨ym r5, ybc r6 (fun _ => rn_add (by rw [wrap_i64 (by omega) (by omega)]; omega)), ym r5, ox_len (Try.underlying43) rfl rfl trivial (oy rfl rfl) (fun _ => rfl), ybt r7 (fun _ => rn_lss (decide_eq_true (by omega))), ym r5, ox_move 9 27 (.inl rfl) rfl rfl (gy rfl rfl rfl) (fun _ _ h => h), ox_bin rfl rfl (gy rfl rfl rfl) (oy rfl rfl) rfl (fun _ => rn_lss (decide_eq_true (by omega))) (fun _ => rfl), ox_pick rfl rfl trivial (oy rfl rfl) (oy rfl rfl) (fun _ => rfl), ym r5, ox_move 8 31 (.inl rfl) rfl rfl (gy rfl rfl rfl) (fun _ _ h => h), ox_len (Try.underlying37) rfl rfl (gy rfl rfl rfl) (oy rfl rfl) (fun _ => rfl), ox_bin rfl rfl (gy rfl rfl rfl) (oy rfl rfl) rfl (fun _ => rn_gtr (decide_eq_false (by omega))) (fun _ => rfl), ox_pick rfl rfl trivial (oy rfl rfl) (oy rfl rfl) (fun _ => rfl), trivial⟩ fun a30 w30 g30 sv30 => ?_
    refine tl_nil ?_
    refine k18 _ _ ?_
    refine cx_ifF sv30 rfl rfl ?_
    refine wp_exit ?_
    repeat refine then_exit ?_
    refine x15 _ _ ?_
    refine k12 _ _ ?_
    refine wp_seq_k fun K31 k31 => ?_
    refine wp_region_lit ?_
    replace HB3_2 := rw_kn g30 HB3_2
    replace hv := hv.kn g30
    replace hs := hs.kn g30
    replace ow6 := ow6.kn g30
    replace ow10 := ow10.kn g30
    replace HG := grown_trans HG g30
    refine sx_head (sv30.st w30) 6 [(71, Sp.is (dval k0)), (72, Sp.is (.slice ao6 A.length cap6)), (73, Sp.ptd T), (70, Sp.ptd T), (74, Sp.tr T), (75, Sp.is (.bool true))] rfl (by kernel_rfl) (by kernel_rfl) (by kernel_rfl)
      ⟨yl r6 (tyD k0 hk.1) HB3_2, ym r5, ox_call (Sp.ptd T) [dval k0, .slice ao6 A.length cap6] rfl rfl trivial ⟨(oy rfl rfl), (oy rfl rfl), trivial⟩ (punctured_on hk hT (Sl.of_own ow6) (by omega) hAA) (fun _ _ h => h) (enter_of Try.func29 (by kernel_rfl) rfl), ym r5, ox_extract rfl rfl rfl trivial (fun w u h => ptd_tree w u h), ox_extract rfl rfl rfl trivial (fun w u h => ptd_ok w u h), trivial⟩ fun a32 w32 g32 st32 => ?_
    obtain ⟨hn32, hd32, e32_71, e32_72, e32_73, e32_70, e32_74, e32_75, e32_21, e32_22, e32_23, e32_24, e32_25, e32_26, e32_27, e32_28, e32_29, e32_30, e32_31, e32_32, e32_33, e32_34, e32_9, e32_8, e32_7, e32_6, e32_3, e32_0, e32_1, e32_2, e32_17, e32_20, -⟩ := st32
    obtain ⟨ao33, cap33, e32_74q, ht33⟩ := e32_74
    replace HB3_2 := rw_kn g32 HB3_2
    replace hv := hv.kn g32
    replace hs := hs.kn g32
    replace ow6 := ow6.kn g32
    replace ow10 := ow10.kn g32
    replace HG := grown_trans HG g32
    have sv32 : Sv 94 [] [(21, _), (22, _), (23, _), (24, _), (25, _), (26, _), (27, _), (28, _), (29, _), (30, _), (31, _), (32, _), (33, _), (34, _), (9, _), (8, _), (7, _), (6, _), (3, _), (0, _), (1, _), (2, _), (17, _), (20, _), (74, _), (75, _)] a32 := ⟨hn32, hd32, e32_21, e32_22, e32_23, e32_24, e32_25, e32_26, e32_27, e32_28, e32_29, e32_30, e32_31, e32_32, e32_33, e32_34, e32_9, e32_8, e32_7, e32_6, e32_3, e32_0, e32_1, e32_2, e32_17, e32_20, e32_74q, e32_75, trivial⟩
    refine tl_alloc (T := 34) (Z := [.slice none 0 0]) sv32 rfl rfl rfl (fun a w => by kernel_rfl) fun a34 w34 B12_34 eq_B12_34 g34 z34 HB12_34 sv34 => ?_
    have ne_B12_34_B3_2 := nb_ne HB3_2 eq_B12_34
    have lo_B12_34 := nb_lo HG eq_B12_34
    have ap_hv_B12_34 := nb_ap (hv.lt) eq_B12_34
    have ap_hs_B12_34 := nb_ap (hs.lt) eq_B12_34
    have ap_ow6_B12_34 := nb_ap (Own.ltS ow6) eq_B12_34
    have ap_ow10_B12_34 := nb_ap (Own.ltS ow10) eq_B12_34
    have ap_ht33_B12_34 := nb_ap (ht33.lt) eq_B12_34
    replace HB3_2 := rw_kn g34 HB3_2
    replace hv := hv.kn g34
    replace hs := hs.kn g34
    replace ow6 := ow6.kn g34
    replace ow10 := ow10.kn g34
    replace ht33 := ht33.kn g34
    replace HG := grown_trans HG g34
    refine tl_sw sv34 r7 (tyT (.slice ao33 T.length cap33) rfl) HB12_34 rfl fun w35 g35 h35 => ?_
    replace HB3_2 := rw_st g35 HB3_2 (Ne.symm ne_B12_34_B3_2)
    replace hv := hv.offR g35 (no_b ap_hv_B12_34)
    replace hs := hs.offR g35 (no_b ap_hs_B12_34)
    replace ow6 := ow6.offR g35 (no_b ap_ow6_B12_34)
    replace ow10 := ow10.offR g35 (no_b ap_ow10_B12_34)
    replace ht33 := ht33.offR g35 (no_b ap_ht33_B12_34)
    replace HG := grown_newR HG g35 lo_B12_34
    replace HB12_34 := h35
    refine tl_as (v := .bool true) sv34 r6 fun a36 sv36 => ?_
    refine tl_nil ?_
    refine k31 _ _ ?_
    refine wp_seq_k fun K37 k37 => ?_
    refine wp_region_lit ?_
    refine sx_head (sv36.st w35) 6 [(77, Sp.is (dval k0)), (78, Sp.is (.slice ao10 A.length cap10)), (79, Sp.ptd T), (76, Sp.ptd T), (80, Sp.tr T), (81, Sp.is (.bool true))] rfl (by kernel_rfl) (by kernel_rfl) (by kernel_rfl)
      ⟨yl r6 (tyD k0 hk.1) HB3_2, ym r5, ox_call (Sp.ptd T) [dval k0, .slice ao10 A.length cap10] rfl rfl trivial ⟨(oy rfl rfl), (oy rfl rfl), trivial⟩ (punctured_on hk (tree_mem hT hmem) (show Sl _ 1 _ bl.length (ic bl) by rw [hbl]; exact Sl.of_own ow10) (by omega) (fun a ha => hAA a ((hmem a).1 ha))) (fun _ _ h => h) (enter_of Try.func29 (by kernel_rfl) rfl), ym r5, ox_extract rfl rfl rfl trivial (fun w u h => ptd_tree w u h), ox_extract rfl rfl rfl trivial (fun w u h => ptd_ok w u h), trivial⟩ fun a38 w38 g38 st38 => ?_
    obtain ⟨hn38, hd38, e38_77, e38_78, e38_79, e38_76, e38_80, e38_81, e38_13, e38_12, e38_21, e38_22, e38_23, e38_24, e38_25, e38_26, e38_27, e38_28, e38_29, e38_30, e38_31, e38_32, e38_33, e38_34, e38_9, e38_8, e38_7, e38_6, e38_3, e38_0, e38_1, e38_2, e38_17, e38_20, e38_74, e38_75, -⟩ := st38
    obtain ⟨ao39, cap39, e38_80q, ht39⟩ := e38_80
    replace HB3_2 := rw_kn g38 HB3_2
    replace HB12_34 := rw_kn g38 HB12_34
    replace hv := hv.kn g38
    replace hs := hs.kn g38
    replace ow6 := ow6.kn g38
    replace ow10 := ow10.kn g38
    replace ht33 := ht33.kn g38
    replace HG := grown_trans HG g38
    have sv38 : Sv 94 [] [(13, _), (12, _), (21, _), (22, _), (23, _), (24, _), (25, _), (26, _), (27, _), (28, _), (29, _), (30, _), (31, _), (32, _), (33, _), (34, _), (9, _), (8, _), (7, _), (6, _), (3, _), (0, _), (1, _), (2, _), (17, _), (20, _), (74, _), (75, _), (80, _), (81, _)] a38 := ⟨hn38, hd38, e38_13, e38_12, e38_21, e38_22, e38_23, e38_24, e38_25, e38_26, e38_27, e38_28, e38_29, e38_30, e38_31, e38_32, e38_33, e38_34, e38_9, e38_8, e38_7, e38_6, e38_3, e38_0, e38_1, e38_2, e38_17, e38_20, e38_74, e38_75, e38_80q, e38_81, trivial⟩
    refine tl_alloc (T := 34) (Z := [.slice none 0 0]) sv38 rfl rfl rfl (fun a w => by kernel_rfl) fun a40 w40 B14_40 eq_B14_40 g40 z40 HB14_40 sv40 => ?_
    have ne_B14_40_B3_2 := nb_ne HB3_2 eq_B14_40
    have ne_B14_40_B12_34 := nb_ne HB12_34 eq_B14_40
    have lo_B14_40 := nb_lo HG eq_B14_40
    have ap_hv_B14_40 := nb_ap (hv.lt) eq_B14_40
    have ap_hs_B14_40 := nb_ap (hs.lt) eq_B14_40
    have ap_ow6_B14_40 := nb_ap (Own.ltS ow6) eq_B14_40
    have ap_ow10_B14_40 := nb_ap (Own.ltS ow10) eq_B14_40
    have ap_ht33_B14_40 := nb_ap (ht33.lt) eq_B14_40
    have ap_ht39_B14_40 := nb_ap (ht39.lt) eq_B14_40
    replace HB3_2 := rw_kn g40 HB3_2
    replace HB12_34 := rw_kn g40 HB12_34
    replace hv := hv.kn g40
    replace hs := hs.kn g40
    replace ow6 := ow6.kn g40
    replace ow10 := ow10.kn g40
    replace ht33 := ht33.kn g40
    replace ht39 := ht39.kn g40
    replace HG := grown_trans HG g40
    refine tl_sw sv40 r7 (tyT (.slice ao39 T.length cap39) rfl) HB14_40 rfl fun w41 g41 h41 => ?_
    replace HB3_2 := rw_st g41 HB3_2 (Ne.symm ne_B14_40_B3_2)
    replace HB12_34 := rw_st g41 HB12_34 (Ne.symm ne_B14_40_B12_34)
    replace hv := hv.offR g41 (no_b ap_hv_B14_40)
    replace hs := hs.offR g41 (no_b ap_hs_B14_40)
    replace ow6 := ow6.offR g41 (no_b ap_ow6_B14_40)
    replace ow10 := ow10.offR g41 (no_b ap_ow10_B14_40)
    replace ht33 := ht33.offR g41 (no_b ap_ht33_B14_40)
    replace ht39 := ht39.offR g41 (no_b ap_ht39_B14_40)
    replace HG := grown_newR HG g41 lo_B14_40
    replace HB14_40 := h41
    refine tl_as (v := .bool true) sv40 r6 fun a42 sv42 => ?_
    refine tl_nil ?_
    refine k37 _ _ ?_
    refine wp_seq_k fun K43 k43 => ?_
    refine wp_region_lit ?_
    refine sx_hv sv42 12 [(82, .bool true), (83, .bool true), (84, .bool true), (85, .bool true), (86, .bool true), (87, .agg #[.slice ao33 T.length cap33]), (88, .agg #[.slice ao39 T.length cap39]), (89, .bool true), (90, .bool true), (91, .bool true), (92, .bool true), (93, .bool true)]
      ⟨ym r5, ym r5, ox_move 15 84 (.inl rfl) rfl rfl (gy rfl rfl rfl) (fun _ _ h => h), ox_pick rfl rfl trivial (oy rfl rfl) (oy rfl rfl) (fun _ => rfl), ym r5, ox_load rfl rfl (gy rfl rfl rfl) (oy rfl rfl) (fun _ g => loadsAt (tyT (.slice ao33 T.length cap33) rfl) (rangeAt_row (row_of g HB12_34 (by simp)))) (fun _ => rfl), ox_load rfl rfl (gy rfl rfl rfl) (oy rfl rfl) (fun _ g => loadsAt (tyT (.slice ao39 T.length cap39) rfl) (rangeAt_row (row_of g HB14_40 (by simp)))) (fun _ => rfl), ox_call (Sp.is (.bool true)) [.agg #[.slice ao33 T.length cap33], .agg #[.slice ao39 T.length cap39]] rfl rfl (gy rfl rfl rfl) ⟨(oy rfl rfl), (oy rfl rfl), trivial⟩ (is_on fun W g => sameTree_walk (ht33.kn g) (ht39.kn g)) (fun _ _ h => h) (enter_of Try.func26 (by kernel_rfl) rfl), ox_pick rfl rfl trivial (oy rfl rfl) (oy rfl rfl) (fun _ => rfl), ym r5, ox_call (Sp.is (.bool true)) [] rfl rfl (gy rfl rfl rfl) trivial (is_on fun W g => awake_walk W) (fun _ _ h => h) (enter_of Try.func19 (by kernel_rfl) rfl), ox_pick rfl rfl trivial (oy rfl rfl) (oy rfl rfl) (fun _ => rfl), trivial⟩ fun a44 w44 g44 sv44 => ?_
    refine tl_as (v := .bool true) sv44 r6 fun a45 sv45 => ?_
    have sv46 : Sv 94 [] [(6, _), (14, _), (12, _), (21, _), (22, _), (23, _), (24, _), (25, _), (26, _), (27, _), (28, _), (29, _), (30, _), (31, _), (32, _), (33, _), (34, _), (9, _), (8, _), (7, _), (3, _), (0, _), (1, _), (2, _), (17, _), (20, _), (74, _), (75, _), (80, _), (81, _)] a45 := sv45.dl [82, 83, 84, 85, 86, 87, 88, 89, 90, 91, 92, 93, 15, 13]
    refine tl_nil ?_
    refine k43 _ _ ?_
    replace HB3_2 := rw_kn g44 HB3_2
    replace HB12_34 := rw_kn g44 HB12_34
    replace HB14_40 := rw_kn g44 HB14_40
    replace hv := hv.kn g44
    replace hs := hs.kn g44
    replace ow6 := ow6.kn g44
    replace ow10 := ow10.kn g44
    replace ht33 := ht33.kn g44
    replace ht39 := ht39.kn g44
    replace HG := grown_trans HG g44
    refine wp_ret ?_
    repeat refine then_ret ?_
    refine cx_ret (fn := Try.f6) sv46 (res_tmp (p := 6) Try.results6 sv46 rfl rfl) ?_
    exact ⟨rfl, HG⟩
  · refine wp_region_lit ?_
    refine sx_hv sv16 14 [(21, .int .i64 ((j : Int))), (22, .int .i64 (((j + 1 : Nat) : Int))), (23, .slice bo sw.length bcap), (24, .int .i64 ((sw.length : Nat))), (25, .bool true), (26, .bool true), (27, .int .i64 ((j : Int))), (28, .bool false), (29, .bool false), (30, .bool false), (31, undef), (32, undef), (33, undef), (34, .bool false)]
      ⟨ym r5, ybc r6 (fun _ => rn_add (by rw [wrap_i64 (by omega) (by omega)]; omega)), ym r5, ox_len (Try.underlying43) rfl rfl trivial (oy rfl rfl) (fun _ => rfl), ybt r7 (fun _ => rn_lss (decide_eq_true (by omega))), ym r5, ox_move 9 27 (.inl rfl) rfl rfl (gy rfl rfl rfl) (fun _ _ h => h), ox_bin rfl rfl (gy rfl rfl rfl) (oy rfl rfl) rfl (fun _ => rn_lss (decide_eq_false (by omega))) (fun _ => rfl), ox_pick rfl rfl trivial (oy rfl rfl) (oy rfl rfl) (fun _ => rfl), ym r5, ox_off (gn rfl rfl rfl) rfl (fun _ => rfl), ox_off (gn rfl rfl rfl) rfl (fun _ => rfl), ox_off (gn rfl rfl rfl) rfl (fun _ => rfl), ox_pick rfl rfl trivial (oy rfl rfl) rfl (fun _ => rfl), trivial⟩ fun a47 w47 g47 sv47 => ?_
    refine tl_nil ?_
    refine k18 _ _ ?_
    refine cx_ifF sv47 rfl rfl ?_
    refine wp_exit ?_
    repeat refine then_exit ?_
    refine x15 _ _ ?_
    refine k12 _ _ ?_
    refine wp_seq_k fun K48 k48 => ?_
    refine wp_region_lit ?_
    replace HB3_2 := rw_kn g47 HB3_2
    replace hv := hv.kn g47
    replace hs := hs.kn g47
    replace ow6 := ow6.kn g47
    replace ow10 := ow10.kn g47
    replace HG := grown_trans HG g47
    refine sx_head (sv47.st w47) 6 [(71, Sp.is (dval k0)), (72, Sp.is (.slice ao6 A.length cap6)), (73, Sp.ptd T), (70, Sp.ptd T), (74, Sp.tr T), (75, Sp.is (.bool true))] rfl (by kernel_rfl) (by kernel_rfl) (by kernel_rfl)
      ⟨yl r6 (tyD k0 hk.1) HB3_2, ym r5, ox_call (Sp.ptd T) [dval k0, .slice ao6 A.length cap6] rfl rfl trivial ⟨(oy rfl rfl), (oy rfl rfl), trivial⟩ (punctured_on hk hT (Sl.of_own ow6) (by omega) hAA) (fun _ _ h => h) (enter_of Try.func29 (by kernel_rfl) rfl), ym r5, ox_extract rfl rfl rfl trivial (fun w u h => ptd_tree w u h), ox_extract rfl rfl rfl trivial (fun w u h => ptd_ok w u h), trivial⟩ fun a49 w49 g49 st49 => ?_
    obtain ⟨hn49, hd49, e49_71, e49_72, e49_73, e49_70, e49_74, e49_75, e49_21, e49_22, e49_23, e49_24, e49_25, e49_26, e49_27, e49_28, e49_29, e49_30, e49_31, e49_32, e49_33, e49_34, e49_9, e49_8, e49_7, e49_6, e49_3, e49_0, e49_1, e49_2, e49_17, e49_20, -⟩ := st49
    obtain ⟨ao50, cap50, e49_74q, ht50⟩ := e49_74
    replace HB3_2 := rw_kn g49 HB3_2
    replace hv := hv.kn g49
    replace hs := hs.kn g49
    replace ow6 := ow6.kn g49
    replace ow10 := ow10.kn g49
    replace HG := grown_trans HG g49
    have sv49 : Sv 94 [] [(21, _), (22, _), (23, _), (24, _), (25, _), (26, _), (27, _), (28, _), (29, _), (30, _), (31, _), (32, _), (33, _), (34, _), (9, _), (8, _), (7, _), (6, _), (3, _), (0, _), (1, _), (2, _), (17, _), (20, _), (74, _), (75, _)] a49 := ⟨hn49, hd49, e49_21, e49_22, e49_23, e49_24, e49_25, e49_26, e49_27, e49_28, e49_29, e49_30, e49_31, e49_32, e49_33, e49_34, e49_9, e49_8, e49_7, e49_6, e49_3, e49_0, e49_1, e49_2, e49_17, e49_20, e49_74q, e49_75, trivial⟩
    refine tl_alloc (T := 34) (Z := [.slice none 0 0]) sv49 rfl rfl rfl (fun a w => by kernel_rfl) fun a51 w51 B12_51 eq_B12_51 g51 z51 HB12_51 sv51 => ?_
    have ne_B12_51_B3_2 := nb_ne HB3_2 eq_B12_51
    have lo_B12_51 := nb_lo HG eq_B12_51
    have ap_hv_B12_51 := nb_ap (hv.lt) eq_B12_51
    have ap_hs_B12_51 := nb_ap (hs.lt) eq_B12_51
    have ap_ow6_B12_51 := nb_ap (Own.ltS ow6) eq_B12_51
    have ap_ow10_B12_51 := nb_ap (Own.ltS ow10) eq_B12_51
    have ap_ht50_B12_51 := nb_ap (ht50.lt) eq_B12_51
    replace HB3_2 := rw_kn g51 HB3_2
    replace hv := hv.kn g51
    replace hs := hs.kn g51
    replace ow6 := ow6.kn g51
    replace ow10 := ow10.kn g51
    replace ht50 := ht50.kn g51
    replace HG := grown_trans HG g51
    refine tl_sw sv51 r7 (tyT (.slice ao50 T.length cap50) rfl) HB12_51 rfl fun w52 g52 h52 => ?_
    replace HB3_2 := rw_st g52 HB3_2 (Ne.symm ne_B12_51_B3_2)
    replace hv := hv.offR g52 (no_b ap_hv_B12_51)
    replace hs := hs.offR g52 (no_b ap_hs_B12_51)
    replace ow6 := ow6.offR g52 (no_b ap_ow6_B12_51)
    replace ow10 := ow10.offR g52 (no_b ap_ow10_B12_51)
    replace ht50 := ht50.offR g52 (no_b ap_ht50_B12_51)
    replace HG := grown_newR HG g52 lo_B12_51
    replace HB12_51 := h52
    refine tl_as (v := .bool true) sv51 r6 fun a53 sv53 => ?_
    refine tl_nil ?_
    refine k48 _ _ ?_
    refine wp_seq_k fun K54 k54 => ?_
    refine wp_region_lit ?_
    refine sx_head (sv53.st w52) 6 [(77, Sp.is (dval k0)), (78, Sp.is (.slice ao10 A.length cap10)), (79, Sp.ptd T), (76, Sp.ptd T), (80, Sp.tr T), (81, Sp.is (.bool true))] rfl (by kernel_rfl) (by kernel_rfl) (by kernel_rfl)
      ⟨yl r6 (tyD k0 hk.1) HB3_2, ym r5, ox_call (Sp.ptd T) [dval k0, .slice ao10 A.length cap10] rfl rfl trivial ⟨(oy rfl rfl), (oy rfl rfl), trivial⟩ (punctured_on hk (tree_mem hT hmem) (show Sl _ 1 _ bl.length (ic bl) by rw [hbl]; exact Sl.of_own ow10) (by omega) (fun a ha => hAA a ((hmem a).1 ha))) (fun _ _ h => h) (enter_of Try.func29 (by kernel_rfl) rfl), ym r5, ox_extract rfl rfl rfl trivial (fun w u h => ptd_tree w u h), ox_extract rfl rfl rfl trivial (fun w u h => ptd_ok w u h), trivial⟩ fun a55 w55 g55 st55 => ?_
    obtain ⟨hn55, hd55, e55_77, e55_78, e55_79, e55_76, e55_80, e55_81, e55_13, e55_12, e55_21, e55_22, e55_23, e55_24, e55_25, e55_26, e55_27, e55_28, e55_29, e55_30, e55_31, e55_32, e55_33, e55_34, e55_9, e55_8, e55_7, e55_6, e55_3, e55_0, e55_1, e55_2, e55_17, e55_20, e55_74, e55_75, -⟩ := st55
    obtain ⟨ao56, cap56, e55_80q, ht56⟩ := e55_80
    replace HB3_2 := rw_kn g55 HB3_2
    replace HB12_51 := rw_kn g55 HB12_51
    replace hv := hv.kn g55
    replace hs := hs.kn g55
    replace ow6 := ow6.kn g55
    replace ow10 := ow10.kn g55
    replace ht50 := ht50.kn g55
    replace HG := grown_trans HG g55
    have sv55 : Sv 94 [] [(13, _), (12, _), (21, _), (22, _), (23, _), (24, _), (25, _), (26, _), (27, _), (28, _), (29, _), (30, _), (31, _), (32, _), (33, _), (34, _), (9, _), (8, _), (7, _), (6, _), (3, _), (0, _), (1, _), (2, _), (17, _), (20, _), (74, _), (75, _), (80, _), (81, _)] a55 := ⟨hn55, hd55, e55_13, e55_12, e55_21, e55_22, e55_23, e55_24, e55_25, e55_26, e55_27, e55_28, e55_29, e55_30, e55_31, e55_32, e55_33, e55_34, e55_9, e55_8, e55_7, e55_6, e55_3, e55_0, e55_1, e55_2, e55_17, e55_20, e55_74, e55_75, e55_80q, e55_81, trivial⟩
    refine tl_alloc (T := 34) (Z := [.slice none 0 0]) sv55 rfl rfl rfl (fun a w => by kernel_rfl) fun a57 w57 B14_57 eq_B14_57 g57 z57 HB14_57 sv57 => ?_
    have ne_B14_57_B3_2 := nb_ne HB3_2 eq_B14_57
    have ne_B14_57_B12_51 := nb_ne HB12_51 eq_B14_57
    have lo_B14_57 := nb_lo HG eq_B14_57
    have ap_hv_B14_57 := nb_ap (hv.lt) eq_B14_57
    have ap_hs_B14_57 := nb_ap (hs.lt) eq_B14_57
    have ap_ow6_B14_57 := nb_ap (Own.ltS ow6) eq_B14_57
    have ap_ow10_B14_57 := nb_ap (Own.ltS ow10) eq_B14_57
    have ap_ht50_B14_57 := nb_ap (ht50.lt) eq_B14_57
    have ap_ht56_B14_57 := nb_ap (ht56.lt) eq_B14_57
    replace HB3_2 := rw_kn g57 HB3_2
    replace HB12_51 := rw_kn g57 HB12_51
    replace hv := hv.kn g57
    replace hs := hs.kn g57
    replace ow6 := ow6.kn g57
    replace ow10 := ow10.kn g57
    replace ht50 := ht50.kn g57
    replace ht56 := ht56.kn g57
    replace HG := grown_trans HG g57
    refine tl_sw sv57 r7 (tyT (.slice ao56 T.length cap56) rfl) HB14_57 rfl fun w58 g58 h58 => ?_
    replace HB3_2 := rw_st g58 HB3_2 (Ne.symm ne_B14_57_B3_2)
    replace HB12_51 := rw_st g58 HB12_51 (Ne.symm ne_B14_57_B12_51)
    replace hv := hv.offR g58 (no_b ap_hv_B14_57)
    replace hs := hs.offR g58 (no_b ap_hs_B14_57)
    replace ow6 := ow6.offR g58 (no_b ap_ow6_B14_57)
    replace ow10 := ow10.offR g58 (no_b ap_ow10_B14_57)
    replace ht50 := ht50.offR g58 (no_b ap_ht50_B14_57)
    replace ht56 := ht56.offR g58 (no_b ap_ht56_B14_57)
    replace HG := grown_newR HG g58 lo_B14_57
    replace HB14_57 := h58
    refine tl_as (v := .bool true) sv57 r6 fun a59 sv59 => ?_
    refine tl_nil ?_
    refine k54 _ _ ?_
    refine wp_seq_k fun K60 k60 => ?_
    refine wp_region_lit ?_
    refine sx_hv sv59 12 [(82, .bool true), (83, .bool true), (84, .bool true), (85, .bool true), (86, .bool true), (87, .agg #[.slice ao50 T.length cap50]), (88, .agg #[.slice ao56 T.length cap56]), (89, .bool true), (90, .bool true), (91, .bool true), (92, .bool true), (93, .bool true)]
      ⟨ym r5, ym r5, ox_move 15 84 (.inl rfl) rfl rfl (gy rfl rfl rfl) (fun _ _ h => h), ox_pick rfl rfl trivial (oy rfl rfl) (oy rfl rfl) (fun _ => rfl), ym r5, ox_load rfl rfl (gy rfl rfl rfl) (oy rfl rfl) (fun _ g => loadsAt (tyT (.slice ao50 T.length cap50) rfl) (rangeAt_row (row_of g HB12_51 (by simp)))) (fun _ => rfl), ox_load rfl rfl (gy rfl rfl rfl) (oy rfl rfl) (fun _ g => loadsAt (tyT (.slice ao56 T.length cap56) rfl) (rangeAt_row (row_of g HB14_57 (by simp)))) (fun _ => rfl), ox_call (Sp.is (.bool true)) [.agg #[.slice ao50 T.length cap50], .agg #[.slice ao56 T.length cap56]] rfl rfl (gy rfl rfl rfl) ⟨(oy rfl rfl), (oy rfl rfl), trivial⟩ (is_on fun W g => sameTree_walk (ht50.kn g) (ht56.kn g)) (fun _ _ h => h) (enter_of Try.func26 (by kernel_rfl) rfl), ox_pick rfl rfl trivial (oy rfl rfl) (oy rfl rfl) (fun _ => rfl), ym r5, ox_call (Sp.is (.bool true)) [] rfl rfl (gy rfl rfl rfl) trivial (is_on fun W g => awake_walk W) (fun _ _ h => h) (enter_of Try.func19 (by kernel_rfl) rfl), ox_pick rfl rfl trivial (oy rfl rfl) (oy rfl rfl) (fun _ => rfl), trivial⟩ fun a61 w61 g61 sv61 => ?_
    refine tl_as (v := .bool true) sv61 r6 fun a62 sv62 => ?_
    have sv63 : Sv 94 [] [(6, _), (14, _), (12, _), (21, _), (22, _), (23, _), (24, _), (25, _), (26, _), (27, _), (28, _), (29, _), (30, _), (31, _), (32, _), (33, _), (34, _), (9, _), (8, _), (7, _), (3, _), (0, _), (1, _), (2, _), (17, _), (20, _), (74, _), (75, _), (80, _), (81, _)] a62 := sv62.dl [82, 83, 84, 85, 86, 87, 88, 89, 90, 91, 92, 93, 15, 13]
    refine tl_nil ?_
    refine k60 _ _ ?_
    replace HB3_2 := rw_kn g61 HB3_2
    replace HB12_51 := rw_kn g61 HB12_51
    replace HB14_57 := rw_kn g61 HB14_57
    replace hv := hv.kn g61
    replace hs := hs.kn g61
    replace ow6 := ow6.kn g61
    replace ow10 := ow10.kn g61
    replace ht50 := ht50.kn g61
    replace ht56 := ht56.kn g61
    replace HG := grown_trans HG g61
    refine wp_ret ?_
    repeat refine then_ret ?_
    refine cx_ret (fn := Try.f6) sv63 (res_tmp (p := 6) Try.results6 sv63 rfl rfl) ?_
    exact ⟨rfl, HG⟩
  · refine wp_region_lit ?_
    refine sx_hv sv16 14 [(21, .int .i64 ((j : Int))), (22, .int .i64 (((j + 1 : Nat) : Int))), (23, .slice bo sw.length bcap), (24, .int .i64 ((sw.length : Nat))), (25, .bool false), (26, .bool false), (27, undef), (28, undef), (29, .bool false), (30, .bool false), (31, undef), (32, undef), (33, undef), (34, .bool false)]
      ⟨ym r5, ybc r6 (fun _ => rn_add (by rw [wrap_i64 (by omega) (by omega)]; omega)), ym r5, ox_len (Try.underlying43) rfl rfl trivial (oy rfl rfl) (fun _ => rfl), ybt r7 (fun _ => rn_lss (decide_eq_false (by omega))), ym r5, ox_off (gn rfl rfl rfl) rfl (fun _ => rfl), ox_off (gn rfl rfl rfl) rfl (fun _ => rfl), ox_pick rfl rfl trivial (oy rfl rfl) rfl (fun _ => rfl), ym r5, ox_off (gn rfl rfl rfl) rfl (fun _ => rfl), ox_off (gn rfl rfl rfl) rfl (fun _ => rfl), ox_off (gn rfl rfl rfl) rfl (fun _ => rfl), ox_pick rfl rfl trivial (oy rfl rfl) rfl (fun _ => rfl), trivial⟩ fun a64 w64 g64 sv64 => ?_
    refine tl_nil ?_
    refine k18 _ _ ?_
    refine cx_ifF sv64 rfl rfl ?_
    refine wp_exit ?_
    repeat refine then_exit ?_
    refine x15 _ _ ?_
    refine k12 _ _ ?_
    refine wp_seq_k fun K65 k65 => ?_
    refine wp_region_lit ?_
    replace HB3_2 := rw_kn g64 HB3_2
    replace hv := hv.kn g64
    replace hs := hs.kn g64
    replace ow6 := ow6.kn g64
    replace ow10 := ow10.kn g64
    replace HG := grown_trans HG g64
    refine sx_head (sv64.st w64) 6 [(71, Sp.is (dval k0)), (72, Sp.is (.slice ao6 A.length cap6)), (73, Sp.ptd T), (70, Sp.ptd T), (74, Sp.tr T), (75, Sp.is (.bool true))] rfl (by kernel_rfl) (by kernel_rfl) (by kernel_rfl)
      ⟨yl r6 (tyD k0 hk.1) HB3_2, ym r5, ox_call (Sp.ptd T) [dval k0, .slice ao6 A.length cap6] rfl rfl trivial ⟨(oy rfl rfl), (oy rfl rfl), trivial⟩ (punctured_on hk hT (Sl.of_own ow6) (by omega) hAA) (fun _ _ h => h) (enter_of Try.func29 (by kernel_rfl) rfl), ym r5, ox_extract rfl rfl rfl trivial (fun w u h => ptd_tree w u h), ox_extract rfl rfl rfl trivial (fun w u h => ptd_ok w u h), trivial⟩ fun a66 w66 g66 st66 => ?_
    obtain ⟨hn66, hd66, e66_71, e66_72, e66_73, e66_70, e66_74, e66_75, e66_21, e66_22, e66_23, e66_24, e66_25, e66_26, e66_27, e66_28, e66_29, e66_30, e66_31, e66_32, e66_33, e66_34, e66_9, e66_8, e66_7, e66_6, e66_3, e66_0, e66_1, e66_2, e66_17, e66_20, -⟩ := st66
    obtain ⟨ao67, cap67, e66_74q, ht67⟩ := e66_74
    replace HB3_2 := rw_kn g66 HB3_2
    replace hv := hv.kn g66
    replace hs := hs.kn g66
    replace ow6 := ow6.kn g66
    replace ow10 := ow10.kn g66
    replace HG := grown_trans HG g66
    have sv66 : Sv 94 [] [(21, _), (22, _), (23, _), (24, _), (25, _), (26, _), (27, _), (28, _), (29, _), (30, _), (31, _), (32, _), (33, _), (34, _), (9, _), (8, _), (7, _), (6, _), (3, _), (0, _), (1, _), (2, _), (17, _), (20, _), (74, _), (75, _)] a66 := ⟨hn66, hd66, e66_21, e66_22, e66_23, e66_24, e66_25, e66_26, e66_27, e66_28, e66_29, e66_30, e66_31, e66_32, e66_33, e66_34, e66_9, e66_8, e66_7, e66_6, e66_3, e66_0, e66_1, e66_2, e66_17, e66_20, e66_74q, e66_75, trivial⟩
    refine tl_alloc (T := 34) (Z := [.slice none 0 0]) sv66 rfl rfl rfl (fun a w => by kernel_rfl) fun a68 w68 B12_68 eq_B12_68 g68 z68 HB12_68 sv68 => ?_
    have ne_B12_68_B3_2 := nb_ne HB3_2 eq_B12_68
    have lo_B12_68 := nb_lo HG eq_B12_68
    have ap_hv_B12_68 := nb_ap (hv.lt) eq_B12_68
    have ap_hs_B12_68 := nb_ap (hs.lt) eq_B12_68
    have ap_ow6_B12_68 := nb_ap (Own.ltS ow6) eq_B12_68
    have ap_ow10_B12_68 := nb_ap (Own.ltS ow10) eq_B12_68
    have ap_ht67_B12_68 := nb_ap (ht67.lt) eq_B12_68
    replace HB3_2 := rw_kn g68 HB3_2
    replace hv := hv.kn g68
    replace hs := hs.kn g68
    replace ow6 := ow6.kn g68
    replace ow10 := ow10.kn g68
    replace ht67 := ht67.kn g68
    replace HG := grown_trans HG g68
    refine tl_sw sv68 r7 (tyT (.slice ao67 T.length cap67) rfl) HB12_68 rfl fun w69 g69 h69 => ?_
    replace HB3_2 := rw_st g69 HB3_2 (Ne.symm ne_B12_68_B3_2)
    replace hv := hv.offR g69 (no_b ap_hv_B12_68)
    replace hs := hs.offR g69 (no_b ap_hs_B12_68)
    replace ow6 := ow6.offR g69 (no_b ap_ow6_B12_68)
    replace ow10 := ow10.offR g69 (no_b ap_ow10_B12_68)
    replace ht67 := ht67.offR g69 (no_b ap_ht67_B12_68)
    replace HG := grown_newR HG g69 lo_B12_68
    replace HB12_68 := h69
    refine tl_as (v := .bool true) sv68 r6 fun a70 sv70 => ?_
    refine tl_nil ?_
    refine k65 _ _ ?_
    refine wp_seq_k fun K71 k71 => ?_
    refine wp_region_lit ?_
    refine sx_head (sv70.st w69) 6 [(77, Sp.is (dval k0)), (78, Sp.is (.slice ao10 A.length cap10)), (79, Sp.ptd T), (76, Sp.ptd T), (80, Sp.tr T), (81, Sp.is (.bool true))] rfl (by kernel_rfl) (by kernel_rfl) (by kernel_rfl)
      ⟨yl r6 (tyD k0 hk.1) HB3_2, ym r5, ox_call (Sp.ptd T) [dval k0, .slice ao10 A.length cap10] rfl rfl trivial ⟨(oy rfl rfl), (oy rfl rfl), trivial⟩ (punctured_on hk (tree_mem hT hmem) (show Sl _ 1 _ bl.length (ic bl) by rw [hbl]; exact Sl.of_own ow10) (by omega) (fun a ha => hAA a ((hmem a).1 ha))) (fun _ _ h => h) (enter_of Try.func29 (by kernel_rfl) rfl), ym r5, ox_extract rfl rfl rfl trivial (fun w u h => ptd_tree w u h), ox_extract rfl rfl rfl trivial (fun w u h => ptd_ok w u h), trivial⟩ fun a72 w72 g72 st72 => ?_
    obtain ⟨hn72, hd72, e72_77, e72_78, e72_79, e72_76, e72_80, e72_81, e72_13, e72_12, e72_21, e72_22, e72_23, e72_24, e72_25, e72_26, e72_27, e72_28, e72_29, e72_30, e72_31, e72_32, e72_33, e72_34, e72_9, e72_8, e72_7, e72_6, e72_3, e72_0, e72_1, e72_2, e72_17, e72_20, e72_74, e72_75, -⟩ := st72
    obtain ⟨ao73, cap73, e72_80q, ht73⟩ := e72_80
    replace HB3_2 := rw_kn g72 HB3_2
    replace HB12_68 := rw_kn g72 HB12_68
    replace hv := hv.kn g72
    replace hs := hs.kn g72
    replace ow6 := ow6.kn g72
    replace ow10 := ow10.kn g72
    replace ht67 := ht67.kn g72
    replace HG := grown_trans HG g72
    have sv72 : Sv 94 [] [(13, _), (12, _), (21, _), (22, _), (23, _), (24, _), (25, _), (26, _), (27, _), (28, _), (29, _), (30, _), (31, _), (32, _), (33, _), (34, _), (9, _), (8, _), (7, _), (6, _), (3, _), (0, _), (1, _), (2, _), (17, _), (20, _), (74, _), (75, _), (80, _), (81, _)] a72 := ⟨hn72, hd72, e72_13, e72_12, e72_21, e72_22, e72_23, e72_24, e72_25, e72_26, e72_27, e72_28, e72_29, e72_30, e72_31, e72_32, e72_33, e72_34, e72_9, e72_8, e72_7, e72_6, e72_3, e72_0, e72_1, e72_2, e72_17, e72_20, e72_74, e72_75, e72_80q, e72_81, trivial⟩
    refine tl_alloc (T := 34) (Z := [.slice none 0 0]) sv72 rfl rfl rfl (fun a w => by kernel_rfl) fun a74 w74 B14_74 eq_B14_74 g74 z74 HB14_74 sv74 => ?_
    have ne_B14_74_B3_2 := nb_ne HB3_2 eq_B14_74
    have ne_B14_74_B12_68 := nb_ne HB12_68 eq_B14_74
    have lo_B14_74 := nb_lo HG eq_B14_74
    have ap_hv_B14_74 := nb_ap (hv.lt) eq_B14_74
    have ap_hs_B14_74 := nb_ap (hs.lt) eq_B14_74
    have ap_ow6_B14_74 := nb_ap (Own.ltS ow6) eq_B14_74
    have ap_ow10_B14_74 := nb_ap (Own.ltS ow10) eq_B14_74
    have ap_ht67_B14_74 := nb_ap (ht67.lt) eq_B14_74
    have ap_ht73_B14_74 := nb_ap (ht73.lt) eq_B14_74
    replace HB3_2 := rw_kn g74 HB3_2
    replace HB12_68 := rw_kn g74 HB12_68
    replace hv := hv.kn g74
    replace hs := hs.kn g74
    replace ow6 := ow6.kn g74
    replace ow10 := ow10.kn g74
    replace ht67 := ht67.kn g74
    replace ht73 := ht73.kn g74
    replace HG := grown_trans HG g74
    refine tl_sw sv74 r7 (tyT (.slice ao73 T.length cap73) rfl) HB14_74 rfl fun w75 g75 h75 => ?_
    replace HB3_2 := rw_st g75 HB3_2 (Ne.symm ne_B14_74_B3_2)
    replace HB12_68 := rw_st g75 HB12_68 (Ne.symm ne_B14_74_B12_68)
    replace hv := hv.offR g75 (no_b ap_hv_B14_74)
    replace hs := hs.offR g75 (no_b ap_hs_B14_74)
    replace ow6 := ow6.offR g75 (no_b ap_ow6_B14_74)
    replace ow10 := ow10.offR g75 (no_b ap_ow10_B14_74)
    replace ht67 := ht67.offR g75 (no_b ap_ht67_B14_74)
    replace ht73 := ht73.offR g75 (no_b ap_ht73_B14_74)
    replace HG := grown_newR HG g75 lo_B14_74
    replace HB14_74 := h75
    refine tl_as (v := .bool true) sv74 r6 fun a76 sv76 => ?_
    refine tl_nil ?_
    refine k71 _ _ ?_
    refine wp_seq_k fun K77 k77 => ?_
    refine wp_region_lit ?_
    refine sx_hv sv76 12 [(82, .bool true), (83, .bool true), (84, .bool true), (85, .bool true), (86, .bool true), (87, .agg #[.slice ao67 T.length cap67]), (88, .agg #[.slice ao73 T.length cap73]), (89, .bool true), (90, .bool true), (91, .bool true), (92, .bool true), (93, .bool true)]
      ⟨ym r5, ym r5, ox_move 15 84 (.inl rfl) rfl rfl (gy rfl rfl rfl) (fun _ _ h => h), ox_pick rfl rfl trivial (oy rfl rfl) (oy rfl rfl) (fun _ => rfl), ym r5, ox_load rfl rfl (gy rfl rfl rfl) (oy rfl rfl) (fun _ g => loadsAt (tyT (.slice ao67 T.length cap67) rfl) (rangeAt_row (row_of g HB12_68 (by simp)))) (fun _ => rfl), ox_load rfl rfl (gy rfl rfl rfl) (oy rfl rfl) (fun _ g => loadsAt (tyT (.slice ao73 T.length cap73) rfl) (rangeAt_row (row_of g HB14_74 (by simp)))) (fun _ => rfl), ox_call (Sp.is (.bool true)) [.agg #[.slice ao67 T.length cap67], .agg #[.slice ao73 T.length cap73]] rfl rfl (gy rfl rfl rfl) ⟨(oy rfl rfl), (oy rfl rfl), trivial⟩ (is_on fun W g => sameTree_walk (ht67.kn g) (ht73.kn g)) (fun _ _ h => h) (enter_of Try.func26 (by kernel_rfl) rfl), ox_pick rfl rfl trivial (oy rfl rfl) (oy rfl rfl) (fun _ => rfl), ym r5, ox_call (Sp.is (.bool true)) [] rfl rfl (gy rfl rfl rfl) trivial (is_on fun W g => awake_walk W) (fun _ _ h => h) (enter_of Try.func19 (by kernel_rfl) rfl), ox_pick rfl rfl trivial (oy rfl rfl) (oy rfl rfl) (fun _ => rfl), trivial⟩ fun a78 w78 g78 sv78 => ?_
    refine tl_as (v := .bool true) sv78 r6 fun a79 sv79 => ?_
    have sv80 : Sv 94 [] [(6, _), (14, _), (12, _), (21, _), (22, _), (23, _), (24, _), (25, _), (26, _), (27, _), (28, _), (29, _), (30, _), (31, _), (32, _), (33, _), (34, _), (9, _), (8, _), (7, _), (3, _), (0, _), (1, _), (2, _), (17, _), (20, _), (74, _), (75, _), (80, _), (81, _)] a79 := sv79.dl [82, 83, 84, 85, 86, 87, 88, 89, 90, 91, 92, 93, 15, 13]
    refine tl_nil ?_
    refine k77 _ _ ?_
    replace HB3_2 := rw_kn g78 HB3_2
    replace HB12_68 := rw_kn g78 HB12_68
    replace HB14_74 := rw_kn g78 HB14_74
    replace hv := hv.kn g78
    replace hs := hs.kn g78
    replace ow6 := ow6.kn g78
    replace ow10 := ow10.kn g78
    replace ht67 := ht67.kn g78
    replace ht73 := ht73.kn g78
    replace HG := grown_trans HG g78
    refine wp_ret ?_
    repeat refine then_ret ?_
    refine cx_ret (fn := Try.f6) sv80 (res_tmp (p := 6) Try.results6 sv80 rfl rfl) ?_
    exact ⟨rfl, HG⟩
theorem order_all (k : List Nat) (hk : Dg k) (l sw : List Int) (v u : Value) (w : World) (hv : SlB w 1 v l.length (ic l)) (hs : SlB w 1 u sw.length (ic sw)) :
    Calls Try.prog 6 #[dval k, v, u] w fun e w' => e = .returned (.bool true) ∧ w.grownBy w' none := by
  obtain ⟨ao, cap, rfl, _⟩ := hv.1.shape
  obtain ⟨bo, bcap, rfl, _⟩ := hs.1.shape
  exact order_walk k hk l sw ao bo cap bcap w hv hs
end Go.Proofs.Yteakoleceoclkaa
