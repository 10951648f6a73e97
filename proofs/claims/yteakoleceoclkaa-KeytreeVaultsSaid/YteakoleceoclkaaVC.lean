/- Vaults: Shred, Drop of the reference, SameVault. (printed by gen_vc.py) -/
import Derived.Test.YteakoleceoclkaaVB
namespace Go.Proofs.Yteakoleceoclkaa
open Go.RowKit Go.Shelf
set_option linter.unusedSimpArgs false
set_option linter.unusedVariables false
theorem RdK.kt2 {w : World} {v : Value} {ks : List VK} (h : RdK w v ks) {j : Nat} (hj : j < ks.length) {x : VK} (hx : ks[j] = x) {l : List Nd} (hl : x.l = l) : RdT w x.s l := hl ▸ h.kt hj hx
theorem map_at {ks ms : List VK} (h : ks.map VK.p = ms.map VK.p) {i : Nat} (hi : i < ks.length) (hj : i < ms.length) {x y : VK} (hx : ks[i] = x) (hy : ms[i] = y) : x.o = y.o ∧ x.l = y.l := by
 have h1 : (ks.map VK.p)[i]? = (ms.map VK.p)[i]? := by rw [h]
 rw [List.getElem?_map, List.getElem?_map, List.getElem?_eq_getElem hi, List.getElem?_eq_getElem hj, hx, hy] at h1
 have h2 : x.p = y.p := by simpa using h1
 exact ⟨congrArg Prod.fst h2, congrArg Prod.snd h2⟩
theorem map_len {ks ms : List VK} (h : ks.map VK.p = ms.map VK.p) : ks.length = ms.length := by
 have := congrArg List.length h
 simpa using this
set_option maxRecDepth 100000 in
set_option maxHeartbeats 4000000 in
theorem rshr_walk (ks : List VK) (ao : Option Addr) (cap : Nat) (sa po : List Nat) (hsa : Dg sa) (hpo : Dg po) (o : List Nat) (ho : Dg o) (a : Int) (w : World) (hr : RdK w (.slice ao ks.length cap) ks) :
   Calls Try.prog 43 #[vval sa po (.slice ao ks.length cap), dval o, .int .i64 a] w fun e w' => VRes w w' (shrO (ks.map VK.p, sa, po) o a) (fpK (.slice ao ks.length cap) ks) e := by
 have kr := hr.2
 refine cx_enter Try.func43 rfl Try.ntmps43 rfl fun a0 sv0 => ?_
 have HG := World.grownBy.refl w none
 replace sv0 : Sv 60 [] [(0, vval sa po (.slice ao ks.length cap)), (1, dval o), (2, .int .i64 a)] a0 := sv0
 refine wp_seq_k fun K1 k1 => ?_
 refine wp_region_lit ?_
 refine tl_box sv0 rfl rfl rfl rfl rfl rfl (tyVa hsa hpo (.slice ao ks.length cap) rfl) fun a2 w2 B3_2 eq_B3_2 g2 z2 HB3_2 sv2 => ?_
 have lo_B3_2 := nb_lo HG eq_B3_2
 have ap_hr_B3_2 := nb_ap (hr.lt) eq_B3_2
 have ap_kr_B3_2 := nb_ap (kr.lt) eq_B3_2
 replace hr := hr.kn g2
 replace kr := kr.kn g2
 replace HG := grown_trans HG g2
 refine tl_box sv2 rfl rfl rfl rfl rfl rfl (tyD o ho.1) fun a3 w3 B4_3 eq_B4_3 g3 z3 HB4_3 sv3 => ?_
 have ne_B4_3_B3_2 := nb_ne HB3_2 eq_B4_3
 have lo_B4_3 := nb_lo HG eq_B4_3
 have ap_hr_B4_3 := nb_ap (hr.lt) eq_B4_3
 have ap_kr_B4_3 := nb_ap (kr.lt) eq_B4_3
 replace HB3_2 := rw_kn g3 HB3_2
 replace hr := hr.kn g3
 replace kr := kr.kn g3
 replace HG := grown_trans HG g3
 refine tl_alloc (T := 58) (Z := ([bv zero32, bv zero32, [.slice none 0 0]].flatten)) sv3 rfl rfl rfl (fun a w => by kernel_rfl) fun a4 w4 B6_4 eq_B6_4 g4 z4 HB6_4 sv4 => ?_
 have ne_B6_4_B3_2 := nb_ne HB3_2 eq_B6_4
 have ne_B6_4_B4_3 := nb_ne HB4_3 eq_B6_4
 have lo_B6_4 := nb_lo HG eq_B6_4
 have ap_hr_B6_4 := nb_ap (hr.lt) eq_B6_4
 have ap_kr_B6_4 := nb_ap (kr.lt) eq_B6_4
 replace HB3_2 := rw_kn g4 HB3_2
 replace HB4_3 := rw_kn g4 HB4_3
 replace hr := hr.kn g4
 replace kr := kr.kn g4
 replace HG := grown_trans HG g4
 refine tl_as (v := .int .i64 0) sv4 r6 fun a5 sv5 => ?_
 refine tl_nil ?_
 refine k1 _ _ ?_
 refine wp_seq_k fun K6 k6 => ?_
 refine wp_seq_k fun K7 k7 => ?_
 rcases (show vldV (ks.map VK.p) = false ∨ (vldV (ks.map VK.p) = true ∧ a < 0) ∨ (vldV (ks.map VK.p) = true ∧ 17179869184 ≤ a) ∨ (vldV (ks.map VK.p) = true ∧ isAddr a = true) by
     cases vldV (ks.map VK.p) <;> cases h : isAddr a <;> simp <;> exact isAddr_no h) with hv | ⟨hv, ha⟩ | ⟨hv, ha⟩ | ⟨hv, ha⟩
 · refine wp_region_lit ?_
   refine sx_hv sv5 11 [(12, vval sa po (.slice ao ks.length cap)), (13, .bool false), (14, .bool true), (15, .bool true), (16, undef), (17, undef), (18, .bool true), (19, .bool true), (20, undef), (21, undef), (22, .bool true)]
     ⟨yl r6 (tyVa hsa hpo (.slice ao ks.length cap) rfl) HB3_2, ox_call (Sp.is (.bool false)) [vval sa po (.slice ao ks.length cap)] rfl rfl trivial ⟨(oy rfl rfl), trivial⟩ (is_on fun W g => rvvalid_B hsa hpo (hr.kn g) hv) (fun _ _ h => h) (enter_of Try.func46 (by kernel_rfl) rfl), ox_un rfl rfl trivial (oy rfl rfl) (fun _ => rn_not) (fun _ => rfl), ym r5, ox_off (gn rfl rfl rfl) rfl (fun _ => rfl), ox_off (gn rfl rfl rfl) rfl (fun _ => rfl), ox_pick rfl rfl trivial (oy rfl rfl) rfl (fun _ => rfl), ym r5, ox_off (gn rfl rfl rfl) rfl (fun _ => rfl), ox_off (gn rfl rfl rfl) rfl (fun _ => rfl), ox_pick rfl rfl trivial (oy rfl rfl) rfl (fun _ => rfl), trivial⟩ fun a8 w8 g8 sv8 => ?_
   refine tl_nil ?_
   refine k7 _ _ ?_
   refine cx_ifT sv8 rfl rfl ?_
   refine wp_seq_k fun K9 k9 => ?_
   refine wp_region_lit ?_
   replace HB3_2 := rw_kn g8 HB3_2
   replace HB4_3 := rw_kn g8 HB4_3
   replace HB6_4 := rw_kn g8 HB6_4
   replace hr := hr.kn g8
   replace kr := kr.kn g8
   replace HG := grown_trans HG g8
   refine sx_hv sv8 1 [(23, vval zero32 zero32 (.slice none 0 0))]
     ⟨ox_build (vs := []) rfl rfl trivial trivial (fun _ => bV0 _) (fun _ => rfl), trivial⟩ fun a10 w10 g10 sv10 => ?_
   refine tl_sw sv10 r7 (tyVa zero32_dg zero32_dg (.slice none 0 0) rfl) (rw_kn g10 HB6_4) (by first | rfl | simp [kcells, bv_length, zero32_len, zero32_dg.1, zero32_dg.1]) fun w11 g11 h11 => ?_
   replace HB3_2 := rw_s2 g10 g11 HB3_2 (Ne.symm ne_B6_4_B3_2)
   replace HB4_3 := rw_s2 g10 g11 HB4_3 (Ne.symm ne_B6_4_B4_3)
   replace hr := (hr.kn g10).offR g11 (no_b ap_hr_B6_4)
   replace kr := (kr.kn g10).offR g11 (no_b ap_kr_B6_4)
   replace HG := grown_newR (grown_trans HG g10) g11 lo_B6_4
   replace HB6_4 := h11
   refine tl_as (v := .int .i64 1) sv10 r6 fun a12 sv12 => ?_
   refine tl_nil ?_
   refine k9 _ _ ?_
   refine wp_ret ?_
   repeat refine then_ret ?_
   refine cx_ret (fn := Try.f43) sv12 (res_ct (p := 6) (q := 7) Try.results43 sv12 rfl rfl rfl rfl (tyVa zero32_dg zero32_dg (.slice none 0 0) rfl) HB6_4) ?_
   exact VRes.zero (shrO_bad (.inr hv)) HG
 · refine wp_region_lit ?_
   refine sx_hv sv5 11 [(12, vval sa po (.slice ao ks.length cap)), (13, .bool true), (14, .bool false), (15, .bool false), (16, .int .i64 a), (17, .bool true), (18, .bool true), (19, .bool true), (20, undef), (21, undef), (22, .bool true)]
     ⟨yl r6 (tyVa hsa hpo (.slice ao ks.length cap) rfl) HB3_2, ox_call (Sp.is (.bool true)) [vval sa po (.slice ao ks.length cap)] rfl rfl trivial ⟨(oy rfl rfl), trivial⟩ (is_on fun W g => rvvalid_B hsa hpo (hr.kn g) hv) (fun _ _ h => h) (enter_of Try.func46 (by kernel_rfl) rfl), ox_un rfl rfl trivial (oy rfl rfl) (fun _ => rn_not) (fun _ => rfl), ym r5, ox_move 2 16 (.inl rfl) rfl rfl (gy rfl rfl rfl) (fun _ _ h => h), ox_bin rfl rfl (gy rfl rfl rfl) (oy rfl rfl) rfl (fun _ => rn_lss (decide_eq_true (by omega))) (fun _ => rfl), ox_pick rfl rfl trivial (oy rfl rfl) (oy rfl rfl) (fun _ => rfl), ym r5, ox_off (gn rfl rfl rfl) rfl (fun _ => rfl), ox_off (gn rfl rfl rfl) rfl (fun _ => rfl), ox_pick rfl rfl trivial (oy rfl rfl) rfl (fun _ => rfl), trivial⟩ fun a13 w13 g13 sv13 => ?_
   refine tl_nil ?_
   refine k7 _ _ ?_
   refine cx_ifT sv13 rfl rfl ?_
   refine wp_seq_k fun K14 k14 => ?_
   refine wp_region_lit ?_
   replace HB3_2 := rw_kn g13 HB3_2
   replace HB4_3 := rw_kn g13 HB4_3
   replace HB6_4 := rw_kn g13 HB6_4
   replace hr := hr.kn g13
   replace kr := kr.kn g13
   replace HG := grown_trans HG g13
   refine sx_hv sv13 1 [(23, vval zero32 zero32 (.slice none 0 0))]
     ⟨ox_build (vs := []) rfl rfl trivial trivial (fun _ => bV0 _) (fun _ => rfl), trivial⟩ fun a15 w15 g15 sv15 => ?_
   refine tl_sw sv15 r7 (tyVa zero32_dg zero32_dg (.slice none 0 0) rfl) (rw_kn g15 HB6_4) (by first | rfl | simp [kcells, bv_length, zero32_len, zero32_dg.1, zero32_dg.1]) fun w16 g16 h16 => ?_
   replace HB3_2 := rw_s2 g15 g16 HB3_2 (Ne.symm ne_B6_4_B3_2)
   replace HB4_3 := rw_s2 g15 g16 HB4_3 (Ne.symm ne_B6_4_B4_3)
   replace hr := (hr.kn g15).offR g16 (no_b ap_hr_B6_4)
   replace kr := (kr.kn g15).offR g16 (no_b ap_kr_B6_4)
   replace HG := grown_newR (grown_trans HG g15) g16 lo_B6_4
   replace HB6_4 := h16
   refine tl_as (v := .int .i64 1) sv15 r6 fun a17 sv17 => ?_
   refine tl_nil ?_
   refine k14 _ _ ?_
   refine wp_ret ?_
   repeat refine then_ret ?_
   refine cx_ret (fn := Try.f43) sv17 (res_ct (p := 6) (q := 7) Try.results43 sv17 rfl rfl rfl rfl (tyVa zero32_dg zero32_dg (.slice none 0 0) rfl) HB6_4) ?_
   exact VRes.zero (shrO_bad (.inl (by unfold isAddr; simp; omega))) HG
 · refine wp_region_lit ?_
   refine sx_hv sv5 11 [(12, vval sa po (.slice ao ks.length cap)), (13, .bool true), (14, .bool false), (15, .bool false), (16, .int .i64 a), (17, .bool false), (18, .bool false), (19, .bool false), (20, .int .i64 a), (21, .bool true), (22, .bool true)]
     ⟨yl r6 (tyVa hsa hpo (.slice ao ks.length cap) rfl) HB3_2, ox_call (Sp.is (.bool true)) [vval sa po (.slice ao ks.length cap)] rfl rfl trivial ⟨(oy rfl rfl), trivial⟩ (is_on fun W g => rvvalid_B hsa hpo (hr.kn g) hv) (fun _ _ h => h) (enter_of Try.func46 (by kernel_rfl) rfl), ox_un rfl rfl trivial (oy rfl rfl) (fun _ => rn_not) (fun _ => rfl), ym r5, ox_move 2 16 (.inl rfl) rfl rfl (gy rfl rfl rfl) (fun _ _ h => h), ox_bin rfl rfl (gy rfl rfl rfl) (oy rfl rfl) rfl (fun _ => rn_lss (decide_eq_false (by omega))) (fun _ => rfl), ox_pick rfl rfl trivial (oy rfl rfl) (oy rfl rfl) (fun _ => rfl), ym r5, ox_move 2 20 (.inl rfl) rfl rfl (gy rfl rfl rfl) (fun _ _ h => h), ox_bin rfl rfl (gy rfl rfl rfl) (oy rfl rfl) rfl (fun _ => rn_geq (decide_eq_true (by omega))) (fun _ => rfl), ox_pick rfl rfl trivial (oy rfl rfl) (oy rfl rfl) (fun _ => rfl), trivial⟩ fun a18 w18 g18 sv18 => ?_
   refine tl_nil ?_
   refine k7 _ _ ?_
   refine cx_ifT sv18 rfl rfl ?_
   refine wp_seq_k fun K19 k19 => ?_
   refine wp_region_lit ?_
   replace HB3_2 := rw_kn g18 HB3_2
   replace HB4_3 := rw_kn g18 HB4_3
   replace HB6_4 := rw_kn g18 HB6_4
   replace hr := hr.kn g18
   replace kr := kr.kn g18
   replace HG := grown_trans HG g18
   refine sx_hv sv18 1 [(23, vval zero32 zero32 (.slice none 0 0))]
     ⟨ox_build (vs := []) rfl rfl trivial trivial (fun _ => bV0 _) (fun _ => rfl), trivial⟩ fun a20 w20 g20 sv20 => ?_
   refine tl_sw sv20 r7 (tyVa zero32_dg zero32_dg (.slice none 0 0) rfl) (rw_kn g20 HB6_4) (by first | rfl | simp [kcells, bv_length, zero32_len, zero32_dg.1, zero32_dg.1]) fun w21 g21 h21 => ?_
   replace HB3_2 := rw_s2 g20 g21 HB3_2 (Ne.symm ne_B6_4_B3_2)
   replace HB4_3 := rw_s2 g20 g21 HB4_3 (Ne.symm ne_B6_4_B4_3)
   replace hr := (hr.kn g20).offR g21 (no_b ap_hr_B6_4)
   replace kr := (kr.kn g20).offR g21 (no_b ap_kr_B6_4)
   replace HG := grown_newR (grown_trans HG g20) g21 lo_B6_4
   replace HB6_4 := h21
   refine tl_as (v := .int .i64 1) sv20 r6 fun a22 sv22 => ?_
   refine tl_nil ?_
   refine k19 _ _ ?_
   refine wp_ret ?_
   repeat refine then_ret ?_
   refine cx_ret (fn := Try.f43) sv22 (res_ct (p := 6) (q := 7) Try.results43 sv22 rfl rfl rfl rfl (tyVa zero32_dg zero32_dg (.slice none 0 0) rfl) HB6_4) ?_
   exact VRes.zero (shrO_bad (.inl (by unfold isAddr; simp; omega))) HG
 · have haa := isAddr_yes ha
   obtain ⟨i, hi⟩ : ∃ i, pos (ks.map VK.p) o = i := ⟨_, rfl⟩
   have h64 : ks.length ≤ 64 := by have := (vldV_iff.1 hv).1; simpa using this
   refine wp_region_lit ?_
   refine sx_hv sv5 11 [(12, vval sa po (.slice ao ks.length cap)), (13, .bool true), (14, .bool false), (15, .bool false), (16, .int .i64 a), (17, .bool false), (18, .bool false), (19, .bool false), (20, .int .i64 a), (21, .bool false), (22, .bool false)]
     ⟨yl r6 (tyVa hsa hpo (.slice ao ks.length cap) rfl) HB3_2, ox_call (Sp.is (.bool true)) [vval sa po (.slice ao ks.length cap)] rfl rfl trivial ⟨(oy rfl rfl), trivial⟩ (is_on fun W g => rvvalid_B hsa hpo (hr.kn g) hv) (fun _ _ h => h) (enter_of Try.func46 (by kernel_rfl) rfl), ox_un rfl rfl trivial (oy rfl rfl) (fun _ => rn_not) (fun _ => rfl), ym r5, ox_move 2 16 (.inl rfl) rfl rfl (gy rfl rfl rfl) (fun _ _ h => h), ox_bin rfl rfl (gy rfl rfl rfl) (oy rfl rfl) rfl (fun _ => rn_lss (decide_eq_false (by omega))) (fun _ => rfl), ox_pick rfl rfl trivial (oy rfl rfl) (oy rfl rfl) (fun _ => rfl), ym r5, ox_move 2 20 (.inl rfl) rfl rfl (gy rfl rfl rfl) (fun _ _ h => h), ox_bin rfl rfl (gy rfl rfl rfl) (oy rfl rfl) rfl (fun _ => rn_geq (decide_eq_false (by omega))) (fun _ => rfl), ox_pick rfl rfl trivial (oy rfl rfl) (oy rfl rfl) (fun _ => rfl), trivial⟩ fun a23 w23 g23 sv23 => ?_
   refine tl_nil ?_
   refine k7 _ _ ?_
   refine cx_ifF sv23 rfl rfl ?_
   refine wp_skip ?_
   refine k6 _ _ ?_
   refine wp_seq_k fun K24 k24 => ?_
   replace HB3_2 := rw_kn g23 HB3_2
   replace HB4_3 := rw_kn g23 HB4_3
   replace HB6_4 := rw_kn g23 HB6_4
   replace hr := hr.kn g23
   replace kr := kr.kn g23
   replace HG := grown_trans HG g23
   cases hf : fnd (ks.map VK.p) o
   · refine wp_region_lit ?_
     refine sx_hv sv23 3 [(24, vval sa po (.slice ao ks.length cap)), (25, dval o), (26, .int .i64 ((-1)))]
       ⟨yl r6 (tyVa hsa hpo (.slice ao ks.length cap) rfl) HB3_2, yl r6 (tyD o ho.1) HB4_3, ox_call (Sp.is (.int .i64 ((-1)))) [vval sa po (.slice ao ks.length cap), dval o] rfl rfl trivial ⟨(oy rfl rfl), (oy rfl rfl), trivial⟩ (is_on fun W g => at_B hsa hpo ho (hr.kn g) hv (at_no hf)) (fun _ _ h => h) (enter_of Try.func75 (by kernel_rfl) rfl), trivial⟩ fun a25 w25 g25 sv25 => ?_
     refine tl_as (v := .int .i64 ((-1))) sv25 r6 fun a26 sv26 => ?_
     have sv27 : Sv 60 [] [(8, _), (12, _), (13, _), (14, _), (15, _), (16, _), (17, _), (18, _), (19, _), (20, _), (21, _), (22, _), (7, _), (6, _), (3, _), (0, _), (1, _), (2, _)] a26 := sv26.dl [24, 25, 26, 4]
     refine tl_nil ?_
     refine k24 _ _ ?_
     refine wp_seq_k fun K28 k28 => ?_
     refine wp_seq_k fun K29 k29 => ?_
     refine wp_region_lit ?_
     refine sx_hv sv27 2 [(27, .int .i64 ((-1))), (28, .bool true)]
       ⟨ym r5, ybc r6 (fun _ => rn_lss (by decide)), trivial⟩ fun a30 w30 g30 sv30 => ?_
     have gc30 := grown_trans g25 g30
     refine tl_nil ?_
     refine k29 _ _ ?_
     refine cx_ifT sv30 rfl rfl ?_
     refine wp_seq_k fun K31 k31 => ?_
     refine wp_region_lit ?_
     replace HB3_2 := rw_kn gc30 HB3_2
     replace HB4_3 := rw_kn gc30 HB4_3
     replace HB6_4 := rw_kn gc30 HB6_4
     replace hr := hr.kn gc30
     replace kr := kr.kn gc30
     replace HG := grown_trans HG gc30
     refine sx_hv sv30 1 [(29, vval zero32 zero32 (.slice none 0 0))]
       ⟨ox_build (vs := []) rfl rfl trivial trivial (fun _ => bV0 _) (fun _ => rfl), trivial⟩ fun a32 w32 g32 sv32 => ?_
     refine tl_sw sv32 r7 (tyVa zero32_dg zero32_dg (.slice none 0 0) rfl) (rw_kn g32 HB6_4) (by first | rfl | simp [kcells, bv_length, zero32_len, zero32_dg.1, zero32_dg.1]) fun w33 g33 h33 => ?_
     replace HB3_2 := rw_s2 g32 g33 HB3_2 (Ne.symm ne_B6_4_B3_2)
     replace HB4_3 := rw_s2 g32 g33 HB4_3 (Ne.symm ne_B6_4_B4_3)
     replace hr := (hr.kn g32).offR g33 (no_b ap_hr_B6_4)
     replace kr := (kr.kn g32).offR g33 (no_b ap_kr_B6_4)
     replace HG := grown_newR (grown_trans HG g32) g33 lo_B6_4
     replace HB6_4 := h33
     refine tl_as (v := .int .i64 10) sv32 r6 fun a34 sv34 => ?_
     refine tl_nil ?_
     refine k31 _ _ ?_
     refine wp_ret ?_
     repeat refine then_ret ?_
     refine cx_ret (fn := Try.f43) sv34 (res_ct (p := 6) (q := 7) Try.results43 sv34 rfl rfl rfl rfl (tyVa zero32_dg zero32_dg (.slice none 0 0) rfl) HB6_4) ?_
     exact VRes.zero (shrO_none ha hv hf) HG
   · have hil : i < ks.length := by have := (fnd_at hf).1; rw [hi] at this; simpa using this
     obtain ⟨x, hx_x⟩ : ∃ x, ks[i]'hil = x := ⟨_, rfl⟩
     have htr : tr (ks.map VK.p) i = x.l := by rw [tr_map hil, hx_x]
     obtain ⟨q, hq⟩ : ∃ q, punOf x.l a = q := ⟨_, rfl⟩
     refine wp_region_lit ?_
     refine sx_hv sv23 3 [(24, vval sa po (.slice ao ks.length cap)), (25, dval o), (26, .int .i64 ((i : Int)))]
       ⟨yl r6 (tyVa hsa hpo (.slice ao ks.length cap) rfl) HB3_2, yl r6 (tyD o ho.1) HB4_3, ox_call (Sp.is (.int .i64 ((i : Int)))) [vval sa po (.slice ao ks.length cap), dval o] rfl rfl trivial ⟨(oy rfl rfl), (oy rfl rfl), trivial⟩ (is_on fun W g => at_B hsa hpo ho (hr.kn g) hv (at_yes hf hi)) (fun _ _ h => h) (enter_of Try.func75 (by kernel_rfl) rfl), trivial⟩ fun a35 w35 g35 sv35 => ?_
     refine tl_as (v := .int .i64 ((i : Int))) sv35 r6 fun a36 sv36 => ?_
     have sv37 : Sv 60 [] [(8, _), (12, _), (13, _), (14, _), (15, _), (16, _), (17, _), (18, _), (19, _), (20, _), (21, _), (22, _), (7, _), (6, _), (3, _), (0, _), (1, _), (2, _)] a36 := sv36.dl [24, 25, 26, 4]
     refine tl_nil ?_
     refine k24 _ _ ?_
     refine wp_seq_k fun K38 k38 => ?_
     refine wp_seq_k fun K39 k39 => ?_
     refine wp_region_lit ?_
     refine sx_hv sv37 2 [(27, .int .i64 ((i : Int))), (28, .bool false)]
       ⟨ym r5, ybc r6 (fun _ => rn_lss (decide_eq_false (by omega))), trivial⟩ fun a40 w40 g40 sv40 => ?_
     have gc40 := grown_trans g35 g40
     refine tl_nil ?_
     refine k39 _ _ ?_
     refine cx_ifF sv40 rfl rfl ?_
     refine wp_skip ?_
     refine k38 _ _ ?_
     refine wp_seq_k fun K41 k41 => ?_
     refine wp_region_lit ?_
     replace HB3_2 := rw_kn gc40 HB3_2
     replace HB4_3 := rw_kn gc40 HB4_3
     replace HB6_4 := rw_kn gc40 HB6_4
     replace hr := hr.kn gc40
     replace kr := kr.kn gc40
     replace HG := grown_trans HG gc40
     refine sx_head (sv40.st w40) 11 [(31, Sp.is (pk B3_2 64)), (32, Sp.is (.slice ao ks.length cap)), (33, Sp.is (.int .i64 ((i : Int)))), (34, Sp.is (pk ((bO ao)) (oO ao + i * 33))), (35, Sp.is (pk ((bO ao)) (oO ao + i * 33 + 32))), (36, Sp.is (.agg #[VK.s x])), (37, Sp.is (.int .i64 a)), (38, Sp.puncR x.s q), (30, Sp.puncR x.s q), (39, Sp.ctR x.s q.1), (40, Sp.is (.int .i64 q.2))] rfl (by kernel_rfl) (by kernel_rfl) (by kernel_rfl)
       ⟨yf r6 (fun _ => by kernel_rfl), yp (i := 2) r6 (tyKs (.slice ao ks.length cap) rfl) HB3_2 rfl (by simp [bv_length, zero32_len, hsa.1, hpo.1]), ym r5, ox_index rfl rfl trivial (oy rfl rfl) (oy rfl rfl) (fun w => ix_sl Try.underlying56 (by kernel_rfl) (hr.1.1) (by omega) (rfl) w) (fun _ => rfl), yf r6 (fun _ => by kernel_rfl), ox_load rfl rfl trivial (oy rfl rfl) (fun _ g => loadsAt (tyT (VK.s x) rfl) (RdK.treeX (hr.kn g) rfl hil hx_x)) (fun _ => rfl), ym r5, ox_call (Sp.puncR x.s q) [.agg #[VK.s x], .int .i64 a] rfl rfl trivial ⟨(oy rfl rfl), (oy rfl rfl), trivial⟩ (rpunct_onR hq (hr.kt hil hx_x)) (fun _ _ h => h) (enter_of Try.func25 (by kernel_rfl) rfl), ym r5, ox_extract rfl rfl rfl trivial (fun w u h => puncR_tree w u h), ox_extract rfl rfl rfl trivial (fun w u h => puncR_err w u h), trivial⟩ fun a42 w42 g42 st42 => ?_
     obtain ⟨hn42, hd42, e42_31, e42_32, e42_33, e42_34, e42_35, e42_36, e42_37, e42_38, e42_30, e42_39, e42_40, e42_27, e42_28, e42_8, e42_12, e42_13, e42_14, e42_15, e42_16, e42_17, e42_18, e42_19, e42_20, e42_21, e42_22, e42_7, e42_6, e42_3, e42_0, e42_1, e42_2, -⟩ := st42
     obtain ⟨aoP, capP, e42_39q, rt⟩ := e42_39
     replace HB3_2 := rw_kn g42 HB3_2
     replace HB4_3 := rw_kn g42 HB4_3
     replace HB6_4 := rw_kn g42 HB6_4
     replace hr := hr.kn g42
     replace kr := kr.kn g42
     replace HG := grown_trans HG g42
     have ap_rt_B3_2 : ∀ k, fpT (.slice aoP q.1.length capP) k → k ≠ B3_2 := fun k hk => (rt.2.fp hk).elim (fun h => ap_kr_B3_2 k ⟨x, hx_x ▸ List.getElem_mem hil, h⟩) (fun t => tag_ne t HB3_2 (by decide))
     have ap_rt_B4_3 : ∀ k, fpT (.slice aoP q.1.length capP) k → k ≠ B4_3 := fun k hk => (rt.2.fp hk).elim (fun h => ap_kr_B4_3 k ⟨x, hx_x ▸ List.getElem_mem hil, h⟩) (fun t => tag_ne t HB4_3 (by decide))
     have ap_rt_B6_4 : ∀ k, fpT (.slice aoP q.1.length capP) k → k ≠ B6_4 := fun k hk => (rt.2.fp hk).elim (fun h => ap_kr_B6_4 k ⟨x, hx_x ▸ List.getElem_mem hil, h⟩) (fun t => tag_ne t HB6_4 (by decide))
     have sv42 : Sv 60 [] [(27, _), (28, _), (8, _), (12, _), (13, _), (14, _), (15, _), (16, _), (17, _), (18, _), (19, _), (20, _), (21, _), (22, _), (7, _), (6, _), (3, _), (0, _), (1, _), (2, _), (39, _), (40, _)] a42 := ⟨hn42, hd42, e42_27, e42_28, e42_8, e42_12, e42_13, e42_14, e42_15, e42_16, e42_17, e42_18, e42_19, e42_20, e42_21, e42_22, e42_7, e42_6, e42_3, e42_0, e42_1, e42_2, e42_39q, e42_40, trivial⟩
     refine tl_alloc (T := 34) (Z := [.slice none 0 0]) sv42 rfl rfl rfl (fun a w => by kernel_rfl) fun a43 w43 B9_43 eq_B9_43 g43 z43 HB9_43 sv43 => ?_
     have ne_B9_43_B3_2 := nb_ne HB3_2 eq_B9_43
     have ne_B9_43_B4_3 := nb_ne HB4_3 eq_B9_43
     have ne_B9_43_B6_4 := nb_ne HB6_4 eq_B9_43
     have lo_B9_43 := nb_lo HG eq_B9_43
     have ap_hr_B9_43 := nb_ap (hr.lt) eq_B9_43
     have ap_kr_B9_43 := nb_ap (kr.lt) eq_B9_43
     have ap_rt_B9_43 := nb_ap (rt.lt) eq_B9_43
     replace HB3_2 := rw_kn g43 HB3_2
     replace HB4_3 := rw_kn g43 HB4_3
     replace HB6_4 := rw_kn g43 HB6_4
     replace hr := hr.kn g43
     replace kr := kr.kn g43
     replace rt := rt.kn g43
     replace HG := grown_trans HG g43
     refine tl_sw sv43 r7 (tyT (.slice aoP q.1.length capP) rfl) HB9_43 rfl fun w44 g44 h44 => ?_
     replace HB3_2 := rw_st g44 HB3_2 (Ne.symm ne_B9_43_B3_2)
     replace HB4_3 := rw_st g44 HB4_3 (Ne.symm ne_B9_43_B4_3)
     replace HB6_4 := rw_st g44 HB6_4 (Ne.symm ne_B9_43_B6_4)
     replace hr := hr.offR g44 (no_b ap_hr_B9_43)
     replace kr := kr.offR g44 (no_b ap_kr_B9_43)
     replace rt := rt.offR g44 (no_b ap_rt_B9_43)
     replace HG := grown_newR HG g44 lo_B9_43
     replace HB9_43 := h44
     refine tl_as (v := .int .i64 q.2) sv43 r6 fun a45 sv45 => ?_
     refine tl_nil ?_
     refine k41 _ _ ?_
     refine wp_seq_k fun K46 k46 => ?_
     refine wp_seq_k fun K47 k47 => ?_
     by_cases hq0 : q.2 = 0
     · refine wp_region_lit ?_
       refine sx_hv sv45 2 [(41, .int .i64 q.2), (42, .bool false)]
         ⟨ym r5, ybc r6 (fun _ => rn_neq (by rw [hq0]; rfl)), trivial⟩ fun a48 w48 g48 sv48 => ?_
       refine tl_nil ?_
       refine k47 _ _ ?_
       refine cx_ifF sv48 rfl rfl ?_
       refine wp_skip ?_
       refine k46 _ _ ?_
       refine wp_seq_k fun K49 k49 => ?_
       refine wp_region_lit ?_
       replace HB3_2 := rw_kn g48 HB3_2
       replace HB4_3 := rw_kn g48 HB4_3
       replace HB6_4 := rw_kn g48 HB6_4
       replace HB9_43 := rw_kn g48 HB9_43
       replace hr := hr.kn g48
       replace kr := kr.kn g48
       replace rt := rt.kn g48
       replace HG := grown_trans HG g48
       refine sx_head (sv48.st w48) 4 [(45, Sp.lit0 w48.heap.size 65), (46, Sp.is (pk B3_2 64)), (47, Sp.is (.slice ao ks.length cap)), (48, Sp.row w48.heap.size 65 33 ks.length (ks.flatMap kcells))] rfl (by kernel_rfl) (by kernel_rfl) (by kernel_rfl)
         ⟨ox_lit0 (t := 0) rfl trivial (Nat.le_refl _) (fun a w => by kernel_rfl) (fun _ _ h => h), yf r6 (fun _ => by kernel_rfl), yp (i := 2) r6 (tyKs (.slice ao ks.length cap) rfl) HB3_2 rfl (by simp [bv_length, zero32_len, hsa.1, hpo.1]), ox_app0 (news := ks.flatMap kcells) keysT rfl rfl trivial rfl (fun _ _ h => h) (oy rfl rfl) (fun _ g => (hr.kn g).1.1) (kcells_all _) (by omega) (Nat.le_refl _) (fun _ _ h => h), trivial⟩ fun a50 w50 g50 st50 => ?_
       obtain ⟨hn50, hd50, e50_45, e50_46, e50_47, e50_48, e50_41, e50_42, e50_10, e50_9, e50_27, e50_28, e50_8, e50_12, e50_13, e50_14, e50_15, e50_16, e50_17, e50_18, e50_19, e50_20, e50_21, e50_22, e50_7, e50_6, e50_3, e50_0, e50_1, e50_2, e50_39, e50_40, -⟩ := st50
       obtain ⟨aoW, capW, e50_48q, ow, frW⟩ := e50_48
       have ap_ow_B3_2 := fr_ap frW HB3_2
       have ap_ow_B4_3 := fr_ap frW HB4_3
       have ap_ow_B6_4 := fr_ap frW HB6_4
       have ap_ow_B9_43 := fr_ap frW HB9_43
       have ap_hr_ow : ∀ k, fpK (.slice ao ks.length cap) ks k → ¬ fpS (.slice aoW ks.length capW) k := fun k hzr hk => absurd (hr.lt k hzr) (Nat.not_lt.2 (frW k hk))
       have ap_kr_ow : ∀ k, fpKs ks k → ¬ fpS (.slice aoW ks.length capW) k := fun k hzr hk => absurd (kr.lt k hzr) (Nat.not_lt.2 (frW k hk))
       have ap_rt_ow : ∀ k, fpT (.slice aoP q.1.length capP) k → ¬ fpS (.slice aoW ks.length capW) k := fun k hzr hk => absurd (rt.lt k hzr) (Nat.not_lt.2 (frW k hk))
       have lo_ow : ∀ k, fpS (.slice aoW ks.length capW) k → w.heap.size ≤ k := fun k hk => Nat.le_trans HG.size (frW k hk)
       replace HB3_2 := rw_kn g50 HB3_2
       replace HB4_3 := rw_kn g50 HB4_3
       replace HB6_4 := rw_kn g50 HB6_4
       replace HB9_43 := rw_kn g50 HB9_43
       replace hr := hr.kn g50
       replace kr := kr.kn g50
       replace rt := rt.kn g50
       replace HG := grown_trans HG g50
       have sv50 : Sv 60 [] [(41, _), (42, _), (10, _), (9, _), (27, _), (28, _), (8, _), (12, _), (13, _), (14, _), (15, _), (16, _), (17, _), (18, _), (19, _), (20, _), (21, _), (22, _), (7, _), (6, _), (3, _), (0, _), (1, _), (2, _), (39, _), (40, _), (48, _)] a50 := ⟨hn50, hd50, e50_41, e50_42, e50_10, e50_9, e50_27, e50_28, e50_8, e50_12, e50_13, e50_14, e50_15, e50_16, e50_17, e50_18, e50_19, e50_20, e50_21, e50_22, e50_7, e50_6, e50_3, e50_0, e50_1, e50_2, e50_39, e50_40, e50_48q, trivial⟩
       refine tl_as (v := .slice aoW ks.length capW) sv50 r6 fun a51 sv51 => ?_
       refine tl_nil ?_
       refine k49 _ _ ?_
       refine wp_seq_k fun K52 k52 => ?_
       obtain ⟨z, hx_z⟩ : ∃ x, ks[i]'hil = x := ⟨_, rfl⟩
       refine wp_region_lit ?_
       refine sx_hv sv51 5 [(49, .slice aoW ks.length capW), (50, .int .i64 ((i : Int))), (51, .agg #[.slice aoP q.1.length capP]), (52, pk ((bO aoW)) (oO aoW + i * 33)), (53, pk ((bO aoW)) (oO aoW + i * 33 + 32))]
         ⟨ym r5, ym r5, yl r6 (tyT (.slice aoP q.1.length capP) rfl) HB9_43, ox_index rfl rfl trivial (oy rfl rfl) (oy rfl rfl) (fun w => ix_sl Try.underlying56 (by kernel_rfl) (Sl.of_own ow) (by omega) (rfl) w) (fun _ => rfl), yf r6 (fun _ => by kernel_rfl), trivial⟩ fun a53 w53 g53 sv53 => ?_
       replace HB3_2 := rw_kn g53 HB3_2
       replace HB4_3 := rw_kn g53 HB4_3
       replace HB6_4 := rw_kn g53 HB6_4
       replace HB9_43 := rw_kn g53 HB9_43
       replace hr := hr.kn g53
       replace kr := kr.kn g53
       replace rt := rt.kn g53
       replace ow := ow.kn g53
       replace HG := grown_trans HG g53
       refine tl_storeE (c := kcells) (el := (⟨z.o, z.ho, aoP, capP, q.1⟩ : VK)) (A := bv z.o) (B := [z.s]) (C := []) sv53 rfl rfl rfl rfl rfl rfl rfl (tyT (.slice aoP q.1.length capP) rfl) ow kcells_len (by decide) (hil) (by rw [hx_z]; rfl) rfl rfl (by rw [bv_length, z.ho.1]) fun w54 g54 h54 => ?_
       replace HB3_2 := row_of g54 HB3_2 (fun e => ap_ow_B3_2 _ (row_fp (j := i) ow (by omega) rfl) (Option.some.inj e).symm)
       replace HB4_3 := row_of g54 HB4_3 (fun e => ap_ow_B4_3 _ (row_fp (j := i) ow (by omega) rfl) (Option.some.inj e).symm)
       replace HB6_4 := row_of g54 HB6_4 (fun e => ap_ow_B6_4 _ (row_fp (j := i) ow (by omega) rfl) (Option.some.inj e).symm)
       replace HB9_43 := row_of g54 HB9_43 (fun e => ap_ow_B9_43 _ (row_fp (j := i) ow (by omega) rfl) (Option.some.inj e).symm)
       replace hr := hr.offR g54 (fun k hk e => ap_hr_ow k hk (row_fp (j := i) ow (by omega) e))
       replace kr := kr.offR g54 (fun k hk e => ap_kr_ow k hk (row_fp (j := i) ow (by omega) e))
       replace rt := rt.offR g54 (fun k hk e => ap_rt_ow k hk (row_fp (j := i) ow (by omega) e))
       replace HG := grown_from HG g54 fun k e => lo_ow k (row_fp (j := i) ow (by omega) e)
       replace ow := h54
       have sv55 : Sv 60 [] [(11, _), (41, _), (42, _), (10, _), (9, _), (27, _), (28, _), (8, _), (12, _), (13, _), (14, _), (15, _), (16, _), (17, _), (18, _), (19, _), (20, _), (21, _), (22, _), (7, _), (6, _), (3, _), (0, _), (1, _), (2, _), (39, _), (40, _), (48, _)] a53 := sv53.dl [49, 50, 51, 52, 53]
       refine tl_nil ?_
       refine k52 _ _ ?_
       refine wp_seq_k fun K56 k56 => ?_
       refine wp_region_lit ?_
       refine sx_hv sv55 6 [(54, pt B3_2), (55, dval sa), (56, pk B3_2 32), (57, dval po), (58, .slice aoW ks.length capW), (59, vval sa po (.slice aoW ks.length capW))]
         ⟨yf r6 (fun _ => by kernel_rfl), yp (i := 0) r6 (tyD sa hsa.1) HB3_2 rfl rfl, yf r6 (fun _ => by kernel_rfl), yp (i := 1) r6 (tyD po hpo.1) HB3_2 rfl (by simp [bv_length, zero32_len, hsa.1, hpo.1]), ym r5, ox_build (vs := [dval sa, dval po, .slice aoW ks.length capW]) rfl rfl trivial ⟨(oy rfl rfl), (oy rfl rfl), (oy rfl rfl), trivial⟩ (fun _ => bV3 hsa hpo _ _ _ _) (fun _ => rfl), trivial⟩ fun a57 w57 g57 sv57 => ?_
       refine tl_sw sv57 r7 (tyVa hsa hpo (.slice aoW ks.length capW) rfl) (rw_kn g57 HB6_4) (by first | rfl | simp [kcells, bv_length, zero32_len, hsa.1, hpo.1]) fun w58 g58 h58 => ?_
       replace HB3_2 := rw_s2 g57 g58 HB3_2 (Ne.symm ne_B6_4_B3_2)
       replace HB4_3 := rw_s2 g57 g58 HB4_3 (Ne.symm ne_B6_4_B4_3)
       replace HB9_43 := rw_s2 g57 g58 HB9_43 ne_B9_43_B6_4
       replace hr := (hr.kn g57).offR g58 (no_b ap_hr_B6_4)
       replace rt := (rt.kn g57).offR g58 (no_b ap_rt_B6_4)
       replace ow := (ow.kn g57).offR g58 (no_b ap_ow_B6_4)
       replace HG := grown_newR (grown_trans HG g57) g58 lo_B6_4
       replace HB6_4 := h58
       refine tl_as (v := .int .i64 0) sv57 r6 fun a59 sv59 => ?_
       have sv60 : Sv 60 [] [(7, _), (11, _), (41, _), (42, _), (10, _), (9, _), (27, _), (28, _), (8, _), (12, _), (13, _), (14, _), (15, _), (16, _), (17, _), (18, _), (19, _), (20, _), (21, _), (22, _), (6, _), (3, _), (0, _), (1, _), (2, _), (39, _), (40, _), (48, _)] a59 := sv59.dl [54, 55, 56, 57, 58, 59]
       refine tl_nil ?_
       refine k56 _ _ ?_
       refine wp_ret ?_
       repeat refine then_ret ?_
       refine cx_ret (fn := Try.f43) sv60 (res_ct (p := 6) (q := 7) Try.results43 sv60 rfl rfl rfl rfl (tyVa hsa hpo (.slice aoW ks.length capW) rfl) HB6_4) ?_
       exact VRes.mk2 (P := setV (ks.map VK.p) o q.1) (shrO_ok ha hv hf hi htr hq hq0) (map_set (el := (⟨z.o, z.ho, aoP, capP, q.1⟩ : VK)) rfl hf hi hil hx_z rfl rfl) ow (KsR.set hr.2 (x := (⟨z.o, z.ho, aoP, capP, q.1⟩ : VK)) rt.1 i) (fun k hk => (fpKs_set hk).elim (fun h => .inl (.inr h)) (fun h => (rt.2.fp h).elim (fun h => .inl (.inr ⟨x, hx_x ▸ List.getElem_mem hil, h⟩)) .inr)) HG
     · refine wp_region_lit ?_
       refine sx_hv sv45 2 [(41, .int .i64 q.2), (42, .bool true)]
         ⟨ym r5, ybc r6 (fun _ => rn_neq (by simpa using hq0)), trivial⟩ fun a61 w61 g61 sv61 => ?_
       refine tl_nil ?_
       refine k47 _ _ ?_
       refine cx_ifT sv61 rfl rfl ?_
       refine wp_seq_k fun K62 k62 => ?_
       refine wp_region_lit ?_
       replace HB3_2 := rw_kn g61 HB3_2
       replace HB4_3 := rw_kn g61 HB4_3
       replace HB6_4 := rw_kn g61 HB6_4
       replace HB9_43 := rw_kn g61 HB9_43
       replace hr := hr.kn g61
       replace kr := kr.kn g61
       replace rt := rt.kn g61
       replace HG := grown_trans HG g61
       refine sx_hv sv61 2 [(43, vval zero32 zero32 (.slice none 0 0)), (44, .int .i64 q.2)]
         ⟨ox_build (vs := []) rfl rfl trivial trivial (fun _ => bV0 _) (fun _ => rfl), ym r5, trivial⟩ fun a63 w63 g63 sv63 => ?_
       refine tl_sw sv63 r7 (tyVa zero32_dg zero32_dg (.slice none 0 0) rfl) (rw_kn g63 HB6_4) (by first | rfl | simp [kcells, bv_length, zero32_len, zero32_dg.1, zero32_dg.1]) fun w64 g64 h64 => ?_
       replace HB3_2 := rw_s2 g63 g64 HB3_2 (Ne.symm ne_B6_4_B3_2)
       replace HB4_3 := rw_s2 g63 g64 HB4_3 (Ne.symm ne_B6_4_B4_3)
       replace HB9_43 := rw_s2 g63 g64 HB9_43 ne_B9_43_B6_4
       replace hr := (hr.kn g63).offR g64 (no_b ap_hr_B6_4)
       replace kr := (kr.kn g63).offR g64 (no_b ap_kr_B6_4)
       replace rt := (rt.kn g63).offR g64 (no_b ap_rt_B6_4)
       replace HG := grown_newR (grown_trans HG g63) g64 lo_B6_4
       replace HB6_4 := h64
       refine tl_as (v := .int .i64 q.2) sv63 r6 fun a65 sv65 => ?_
       refine tl_nil ?_
       refine k62 _ _ ?_
       refine wp_ret ?_
       repeat refine then_ret ?_
       refine cx_ret (fn := Try.f43) sv65 (res_ct (p := 6) (q := 7) Try.results43 sv65 rfl rfl rfl rfl (tyVa zero32_dg zero32_dg (.slice none 0 0) rfl) HB6_4) ?_
       exact VRes.zero (shrO_err ha hv hf hi htr hq hq0) HG
set_option maxRecDepth 100000 in
set_option maxHeartbeats 4000000 in
theorem rdrp_walk (ks : List VK) (ao : Option Addr) (cap : Nat) (sa po : List Nat) (hsa : Dg sa) (hpo : Dg po) (o : List Nat) (ho : Dg o) (w : World) (hr : RdK w (.slice ao ks.length cap) ks) :
   Calls Try.prog 44 #[vval sa po (.slice ao ks.length cap), dval o] w fun e w' => VRes w w' (drpO (ks.map VK.p, sa, po) o) (fpK (.slice ao ks.length cap) ks) e := by
 refine cx_enter Try.func44 rfl Try.ntmps44 rfl fun a0 sv0 => ?_
 have HG := World.grownBy.refl w none
 replace sv0 : Sv 36 [] [(0, vval sa po (.slice ao ks.length cap)), (1, dval o)] a0 := sv0
 refine wp_seq_k fun K1 k1 => ?_
 refine wp_region_lit ?_
 refine tl_box sv0 rfl rfl rfl rfl rfl rfl (tyVa hsa hpo (.slice ao ks.length cap) rfl) fun a2 w2 B2_2 eq_B2_2 g2 z2 HB2_2 sv2 => ?_
 have lo_B2_2 := nb_lo HG eq_B2_2
 have ap_hr_B2_2 := nb_ap (hr.lt) eq_B2_2
 replace hr := hr.kn g2
 replace HG := grown_trans HG g2
 refine tl_box sv2 rfl rfl rfl rfl rfl rfl (tyD o ho.1) fun a3 w3 B3_3 eq_B3_3 g3 z3 HB3_3 sv3 => ?_
 have ne_B3_3_B2_2 := nb_ne HB2_2 eq_B3_3
 have lo_B3_3 := nb_lo HG eq_B3_3
 have ap_hr_B3_3 := nb_ap (hr.lt) eq_B3_3
 replace HB2_2 := rw_kn g3 HB2_2
 replace hr := hr.kn g3
 replace HG := grown_trans HG g3
 refine tl_alloc (T := 58) (Z := ([bv zero32, bv zero32, [.slice none 0 0]].flatten)) sv3 rfl rfl rfl (fun a w => by kernel_rfl) fun a4 w4 B4_4 eq_B4_4 g4 z4 HB4_4 sv4 => ?_
 have ne_B4_4_B2_2 := nb_ne HB2_2 eq_B4_4
 have ne_B4_4_B3_3 := nb_ne HB3_3 eq_B4_4
 have lo_B4_4 := nb_lo HG eq_B4_4
 have ap_hr_B4_4 := nb_ap (hr.lt) eq_B4_4
 replace HB2_2 := rw_kn g4 HB2_2
 replace HB3_3 := rw_kn g4 HB3_3
 replace hr := hr.kn g4
 replace HG := grown_trans HG g4
 refine tl_as (v := .int .i64 0) sv4 r6 fun a5 sv5 => ?_
 refine tl_nil ?_
 refine k1 _ _ ?_
 refine wp_seq_k fun K6 k6 => ?_
 refine wp_seq_k fun K7 k7 => ?_
 cases hv : vldV (ks.map VK.p)
 · refine wp_region_lit ?_
   refine sx_hv sv5 3 [(8, vval sa po (.slice ao ks.length cap)), (9, .bool false), (10, .bool true)]
     ⟨yl r6 (tyVa hsa hpo (.slice ao ks.length cap) rfl) HB2_2, ox_call (Sp.is (.bool false)) [vval sa po (.slice ao ks.length cap)] rfl rfl trivial ⟨(oy rfl rfl), trivial⟩ (is_on fun W g => rvvalid_B hsa hpo (hr.kn g) hv) (fun _ _ h => h) (enter_of Try.func46 (by kernel_rfl) rfl), ox_un rfl rfl trivial (oy rfl rfl) (fun _ => rn_not) (fun _ => rfl), trivial⟩ fun a8 w8 g8 sv8 => ?_
   refine tl_nil ?_
   refine k7 _ _ ?_
   refine cx_ifT sv8 rfl rfl ?_
   refine wp_seq_k fun K9 k9 => ?_
   refine wp_region_lit ?_
   replace HB2_2 := rw_kn g8 HB2_2
   replace HB3_3 := rw_kn g8 HB3_3
   replace HB4_4 := rw_kn g8 HB4_4
   replace hr := hr.kn g8
   replace HG := grown_trans HG g8
   refine sx_hv sv8 1 [(11, vval zero32 zero32 (.slice none 0 0))]
     ⟨ox_build (vs := []) rfl rfl trivial trivial (fun _ => bV0 _) (fun _ => rfl), trivial⟩ fun a10 w10 g10 sv10 => ?_
   refine tl_sw sv10 r7 (tyVa zero32_dg zero32_dg (.slice none 0 0) rfl) (rw_kn g10 HB4_4) (by first | rfl | simp [kcells, bv_length, zero32_len, zero32_dg.1, zero32_dg.1]) fun w11 g11 h11 => ?_
   replace HB2_2 := rw_s2 g10 g11 HB2_2 (Ne.symm ne_B4_4_B2_2)
   replace HB3_3 := rw_s2 g10 g11 HB3_3 (Ne.symm ne_B4_4_B3_3)
   replace hr := (hr.kn g10).offR g11 (no_b ap_hr_B4_4)
   replace HG := grown_newR (grown_trans HG g10) g11 lo_B4_4
   replace HB4_4 := h11
   refine tl_as (v := .int .i64 1) sv10 r6 fun a12 sv12 => ?_
   refine tl_nil ?_
   refine k9 _ _ ?_
   refine wp_ret ?_
   repeat refine then_ret ?_
   refine cx_ret (fn := Try.f44) sv12 (res_ct (p := 4) (q := 5) Try.results44 sv12 rfl rfl rfl rfl (tyVa zero32_dg zero32_dg (.slice none 0 0) rfl) HB4_4) ?_
   exact VRes.zero (by unfold drpO; rw [if_neg (by rw [hv]; simp)]) HG
 · obtain ⟨i, hi⟩ : ∃ i, pos (ks.map VK.p) o = i := ⟨_, rfl⟩
   have h64 : ks.length ≤ 64 := by have := (vldV_iff.1 hv).1; simpa using this
   refine wp_region_lit ?_
   refine sx_hv sv5 3 [(8, vval sa po (.slice ao ks.length cap)), (9, .bool true), (10, .bool false)]
     ⟨yl r6 (tyVa hsa hpo (.slice ao ks.length cap) rfl) HB2_2, ox_call (Sp.is (.bool true)) [vval sa po (.slice ao ks.length cap)] rfl rfl trivial ⟨(oy rfl rfl), trivial⟩ (is_on fun W g => rvvalid_B hsa hpo (hr.kn g) hv) (fun _ _ h => h) (enter_of Try.func46 (by kernel_rfl) rfl), ox_un rfl rfl trivial (oy rfl rfl) (fun _ => rn_not) (fun _ => rfl), trivial⟩ fun a13 w13 g13 sv13 => ?_
   refine tl_nil ?_
   refine k7 _ _ ?_
   refine cx_ifF sv13 rfl rfl ?_
   refine wp_skip ?_
   refine k6 _ _ ?_
   refine wp_seq_k fun K14 k14 => ?_
   replace HB2_2 := rw_kn g13 HB2_2
   replace HB3_3 := rw_kn g13 HB3_3
   replace HB4_4 := rw_kn g13 HB4_4
   replace hr := hr.kn g13
   replace HG := grown_trans HG g13
   cases hf : fnd (ks.map VK.p) o
   · refine wp_region_lit ?_
     refine sx_hv sv13 3 [(12, vval sa po (.slice ao ks.length cap)), (13, dval o), (14, .int .i64 ((-1)))]
       ⟨yl r6 (tyVa hsa hpo (.slice ao ks.length cap) rfl) HB2_2, yl r6 (tyD o ho.1) HB3_3, ox_call (Sp.is (.int .i64 ((-1)))) [vval sa po (.slice ao ks.length cap), dval o] rfl rfl trivial ⟨(oy rfl rfl), (oy rfl rfl), trivial⟩ (is_on fun W g => at_B hsa hpo ho (hr.kn g) hv (at_no hf)) (fun _ _ h => h) (enter_of Try.func75 (by kernel_rfl) rfl), trivial⟩ fun a15 w15 g15 sv15 => ?_
     refine tl_as (v := .int .i64 ((-1))) sv15 r6 fun a16 sv16 => ?_
     have sv17 : Sv 36 [] [(6, _), (8, _), (9, _), (10, _), (5, _), (4, _), (2, _), (0, _), (1, _)] a16 := sv16.dl [12, 13, 14, 3]
     refine tl_nil ?_
     refine k14 _ _ ?_
     refine wp_seq_k fun K18 k18 => ?_
     refine wp_seq_k fun K19 k19 => ?_
     refine wp_region_lit ?_
     refine sx_hv sv17 2 [(15, .int .i64 ((-1))), (16, .bool true)]
       ⟨ym r5, ybc r6 (fun _ => rn_lss (by decide)), trivial⟩ fun a20 w20 g20 sv20 => ?_
     have gc20 := grown_trans g15 g20
     refine tl_nil ?_
     refine k19 _ _ ?_
     refine cx_ifT sv20 rfl rfl ?_
     refine wp_seq_k fun K21 k21 => ?_
     refine wp_region_lit ?_
     replace HB2_2 := rw_kn gc20 HB2_2
     replace HB3_3 := rw_kn gc20 HB3_3
     replace HB4_4 := rw_kn gc20 HB4_4
     replace hr := hr.kn gc20
     replace HG := grown_trans HG gc20
     refine sx_hv sv20 1 [(17, vval zero32 zero32 (.slice none 0 0))]
       ⟨ox_build (vs := []) rfl rfl trivial trivial (fun _ => bV0 _) (fun _ => rfl), trivial⟩ fun a22 w22 g22 sv22 => ?_
     refine tl_sw sv22 r7 (tyVa zero32_dg zero32_dg (.slice none 0 0) rfl) (rw_kn g22 HB4_4) (by first | rfl | simp [kcells, bv_length, zero32_len, zero32_dg.1, zero32_dg.1]) fun w23 g23 h23 => ?_
     replace HB2_2 := rw_s2 g22 g23 HB2_2 (Ne.symm ne_B4_4_B2_2)
     replace HB3_3 := rw_s2 g22 g23 HB3_3 (Ne.symm ne_B4_4_B3_3)
     replace hr := (hr.kn g22).offR g23 (no_b ap_hr_B4_4)
     replace HG := grown_newR (grown_trans HG g22) g23 lo_B4_4
     replace HB4_4 := h23
     refine tl_as (v := .int .i64 10) sv22 r6 fun a24 sv24 => ?_
     refine tl_nil ?_
     refine k21 _ _ ?_
     refine wp_ret ?_
     repeat refine then_ret ?_
     refine cx_ret (fn := Try.f44) sv24 (res_ct (p := 4) (q := 5) Try.results44 sv24 rfl rfl rfl rfl (tyVa zero32_dg zero32_dg (.slice none 0 0) rfl) HB4_4) ?_
     exact VRes.zero (by unfold drpO; rw [if_pos hv, if_neg (by rw [hf]; simp)]) HG
   · have hil : i < ks.length := by have := (fnd_at hf).1; rw [hi] at this; simpa using this
     obtain ⟨x, hx_x⟩ : ∃ x, ks[i]'hil = x := ⟨_, rfl⟩
     have htr : tr (ks.map VK.p) i = x.l := by rw [tr_map hil, hx_x]
     refine wp_region_lit ?_
     refine sx_hv sv13 3 [(12, vval sa po (.slice ao ks.length cap)), (13, dval o), (14, .int .i64 ((i : Int)))]
       ⟨yl r6 (tyVa hsa hpo (.slice ao ks.length cap) rfl) HB2_2, yl r6 (tyD o ho.1) HB3_3, ox_call (Sp.is (.int .i64 ((i : Int)))) [vval sa po (.slice ao ks.length cap), dval o] rfl rfl trivial ⟨(oy rfl rfl), (oy rfl rfl), trivial⟩ (is_on fun W g => at_B hsa hpo ho (hr.kn g) hv (at_yes hf hi)) (fun _ _ h => h) (enter_of Try.func75 (by kernel_rfl) rfl), trivial⟩ fun a25 w25 g25 sv25 => ?_
     refine tl_as (v := .int .i64 ((i : Int))) sv25 r6 fun a26 sv26 => ?_
     have sv27 : Sv 36 [] [(6, _), (8, _), (9, _), (10, _), (5, _), (4, _), (2, _), (0, _), (1, _)] a26 := sv26.dl [12, 13, 14, 3]
     refine tl_nil ?_
     refine k14 _ _ ?_
     refine wp_seq_k fun K28 k28 => ?_
     refine wp_seq_k fun K29 k29 => ?_
     refine wp_region_lit ?_
     refine sx_hv sv27 2 [(15, .int .i64 ((i : Int))), (16, .bool false)]
       ⟨ym r5, ybc r6 (fun _ => rn_lss (decide_eq_false (by omega))), trivial⟩ fun a30 w30 g30 sv30 => ?_
     have gc30 := grown_trans g25 g30
     refine tl_nil ?_
     refine k29 _ _ ?_
     refine cx_ifF sv30 rfl rfl ?_
     refine wp_skip ?_
     refine k28 _ _ ?_
     refine wp_seq_k fun K31 k31 => ?_
     replace HB2_2 := rw_kn gc30 HB2_2
     replace HB3_3 := rw_kn gc30 HB3_3
     replace HB4_4 := rw_kn gc30 HB4_4
     replace hr := hr.kn gc30
     replace HG := grown_trans HG gc30
     obtain ⟨ao1, cap1, hs1, hl1, hf1⟩ := sl_take hr.1.1 (i := i) (by omega)
     obtain ⟨ao2, cap2, hs2, hl20, hf2⟩ := sl_drop hr.1.1 (i := i + 1) (by omega)
     have hl2 : SlB w30 33 (.slice ao2 (ks.length - (i + 1)) cap2) (ks.length - (i + 1)) ((ks.drop (i + 1)).flatMap kcells) := ⟨hl20, fun k hk => hr.lt k (.inl (hf2 k hk))⟩
     have ap_hl2_B2_2 : ∀ k, fpS (.slice ao2 (ks.length - (i + 1)) cap2) k → k ≠ B2_2 := fun k hk => ap_hr_B2_2 k (.inl (hf2 k hk))
     have ap_hl2_B3_3 : ∀ k, fpS (.slice ao2 (ks.length - (i + 1)) cap2) k → k ≠ B3_3 := fun k hk => ap_hr_B3_3 k (.inl (hf2 k hk))
     have ap_hl2_B4_4 : ∀ k, fpS (.slice ao2 (ks.length - (i + 1)) cap2) k → k ≠ B4_4 := fun k hk => ap_hr_B4_4 k (.inl (hf2 k hk))
     refine rx_tail (sv30.st w30) (by kernel_rfl) 11 [(18, Sp.lit0 w30.heap.size 65), (19, Sp.is (pk B2_2 64)), (20, Sp.is (.slice ao ks.length cap)), (21, Sp.is (.int .i64 ((i : Int)))), (22, Sp.is (.slice ao1 i cap1)), (23, Sp.row w30.heap.size 65 33 i ((ks.take i).flatMap kcells)), (24, Sp.is (pk B2_2 64)), (25, Sp.is (.slice ao ks.length cap)), (26, Sp.is (.int .i64 ((i : Int)))), (27, Sp.is (.int .i64 (((i + 1 : Nat) : Int)))), (28, Sp.is (.slice ao2 (ks.length - (i + 1)) cap2))] rfl (by kernel_rfl) (by kernel_rfl) (by kernel_rfl) [] (by kernel_rfl)
       ⟨ox_lit0 (t := 0) rfl trivial (Nat.le_refl _) (fun a w => by kernel_rfl) (fun _ _ h => h), yf r6 (fun _ => by kernel_rfl), yp (i := 2) r6 (tyKs (.slice ao ks.length cap) rfl) HB2_2 rfl (by simp [bv_length, zero32_len, hsa.1, hpo.1]), ym r5, ox_slice (l := none) (u := (some (.int .i64 ((i : Int))))) rfl rfl trivial (oy rfl rfl) trivial (oy rfl rfl) (hs1) (fun _ => rfl), ox_app0 (news := (ks.take i).flatMap kcells) keysT rfl rfl trivial rfl (fun _ _ h => h) (oy rfl rfl) (fun _ g => hl1.kn g) (kcells_all _) (by omega) (Nat.le_refl _) (fun _ _ h => h), yf r6 (fun _ => by kernel_rfl), yp (i := 2) r6 (tyKs (.slice ao ks.length cap) rfl) HB2_2 rfl (by simp [bv_length, zero32_len, hsa.1, hpo.1]), ym r5, ybc r6 (fun _ => rn_add (by rw [wrap_i64 (by omega) (by omega)]; omega)), ox_slice (l := (some (.int .i64 (((i + 1 : Nat) : Int))))) (u := none) rfl rfl trivial (oy rfl rfl) (oy rfl rfl) trivial (hs2) (fun _ => rfl), trivial⟩ trivial
       [] (by kernel_rfl) trivial ⟨.inl rfl, .inl rfl, .inl rfl, .inl rfl, .inl rfl, .inl rfl, .inl rfl, .inl rfl, .inl rfl, .inl rfl, .inl rfl, trivial⟩ (by kernel_rfl) fun a32 w32 g32 st32 nd32 => ?_
     obtain ⟨hn32, hd32, e32_18, e32_19, e32_20, e32_21, e32_22, e32_23, e32_24, e32_25, e32_26, e32_27, e32_28, e32_15, e32_16, e32_6, e32_8, e32_9, e32_10, e32_5, e32_4, e32_2, e32_0, e32_1, -⟩ := st32
     obtain ⟨aoW, capW, e32_23q, ow, frW⟩ := e32_23
     have ap_ow_B2_2 := fr_ap frW HB2_2
     have ap_ow_B3_3 := fr_ap frW HB3_3
     have ap_ow_B4_4 := fr_ap frW HB4_4
     have ap_hr_ow : ∀ k, fpK (.slice ao ks.length cap) ks k → ¬ fpS (.slice aoW i capW) k := fun k hzr hk => absurd (hr.lt k hzr) (Nat.not_lt.2 (frW k hk))
     have ap_hl2_ow : ∀ k, fpS (.slice ao2 (ks.length - (i + 1)) cap2) k → ¬ fpS (.slice aoW i capW) k := fun k hzr hk => absurd (hl2.lt k hzr) (Nat.not_lt.2 (frW k hk))
     have lo_ow : ∀ k, fpS (.slice aoW i capW) k → w.heap.size ≤ k := fun k hk => Nat.le_trans HG.size (frW k hk)
     replace HB2_2 := rw_kn g32 HB2_2
     replace HB3_3 := rw_kn g32 HB3_3
     replace HB4_4 := rw_kn g32 HB4_4
     replace hr := hr.kn g32
     replace hl2 := hl2.kn g32
     replace HG := grown_trans HG g32
     have sv32 : Sv 36 [] [(15, _), (16, _), (6, _), (8, _), (9, _), (10, _), (5, _), (4, _), (2, _), (0, _), (1, _), (23, _), (28, _)] a32 := ⟨hn32, hd32, e32_15, e32_16, e32_6, e32_8, e32_9, e32_10, e32_5, e32_4, e32_2, e32_0, e32_1, e32_23q, e32_28, trivial⟩
     refine tl_app keysT sv32 rfl rfl rfl rfl rfl rfl rfl rfl ow hl2.1 (kcells_all _) (by omega) fun a33 aoX capX w33 ox stp sv33 => ?_
     have lo_ox : ∀ k, fpS (.slice aoX (i + (ks.length - (i + 1))) capX) k → w.heap.size ≤ k := fun k hk => (stp.2 k hk).elim (lo_ow k) (fun h => Nat.le_trans HG.size h)
     have ap_ox_B2_2 : ∀ k, fpS (.slice aoX (i + (ks.length - (i + 1))) capX) k → k ≠ B2_2 := fun k hk => (stp.2 k hk).elim (ap_ow_B2_2 k) (fun h => Nat.ne_of_gt (Nat.lt_of_lt_of_le (Array.getElem?_eq_some_iff.1 HB2_2).1 h))
     have ap_ox_B3_3 : ∀ k, fpS (.slice aoX (i + (ks.length - (i + 1))) capX) k → k ≠ B3_3 := fun k hk => (stp.2 k hk).elim (ap_ow_B3_3 k) (fun h => Nat.ne_of_gt (Nat.lt_of_lt_of_le (Array.getElem?_eq_some_iff.1 HB3_3).1 h))
     have ap_ox_B4_4 : ∀ k, fpS (.slice aoX (i + (ks.length - (i + 1))) capX) k → k ≠ B4_4 := fun k hk => (stp.2 k hk).elim (ap_ow_B4_4 k) (fun h => Nat.ne_of_gt (Nat.lt_of_lt_of_le (Array.getElem?_eq_some_iff.1 HB4_4).1 h))
     replace HB2_2 := row_of stp.1 HB2_2 (fun e => ap_ow_B2_2 _ e.symm rfl)
     replace HB3_3 := row_of stp.1 HB3_3 (fun e => ap_ow_B3_3 _ e.symm rfl)
     replace HB4_4 := row_of stp.1 HB4_4 (fun e => ap_ow_B4_4 _ e.symm rfl)
     replace hr := hr.offR stp.1 (fun k hk e => ap_hr_ow k hk (e))
     replace hl2 := hl2.offR stp.1 (fun k hk e => ap_hl2_ow k hk (e))
     replace HG := grown_from HG stp.1 fun k e => lo_ow k (e)
     rw [← List.flatMap_append] at ox
     refine tl_as (v := .slice aoX (i + (ks.length - (i + 1))) capX) sv33 r6 fun a34 sv34 => ?_
     refine tl_nil ?_
     refine k31 _ _ ?_
     refine wp_seq_k fun K35 k35 => ?_
     refine wp_region_lit ?_
     refine sx_hv sv34 6 [(30, pt B2_2), (31, dval sa), (32, pk B2_2 32), (33, dval po), (34, .slice aoX (i + (ks.length - (i + 1))) capX), (35, vval sa po (.slice aoX (i + (ks.length - (i + 1))) capX))]
       ⟨yf r6 (fun _ => by kernel_rfl), yp (i := 0) r6 (tyD sa hsa.1) HB2_2 rfl rfl, yf r6 (fun _ => by kernel_rfl), yp (i := 1) r6 (tyD po hpo.1) HB2_2 rfl (by simp [bv_length, zero32_len, hsa.1, hpo.1]), ym r5, ox_build (vs := [dval sa, dval po, .slice aoX (i + (ks.length - (i + 1))) capX]) rfl rfl trivial ⟨(oy rfl rfl), (oy rfl rfl), (oy rfl rfl), trivial⟩ (fun _ => bV3 hsa hpo _ _ _ _) (fun _ => rfl), trivial⟩ fun a36 w36 g36 sv36 => ?_
     refine tl_sw sv36 r7 (tyVa hsa hpo (.slice aoX (i + (ks.length - (i + 1))) capX) rfl) (rw_kn g36 HB4_4) (by first | rfl | simp [kcells, bv_length, zero32_len, hsa.1, hpo.1]) fun w37 g37 h37 => ?_
     replace HB2_2 := rw_s2 g36 g37 HB2_2 (Ne.symm ne_B4_4_B2_2)
     replace HB3_3 := rw_s2 g36 g37 HB3_3 (Ne.symm ne_B4_4_B3_3)
     replace hr := (hr.kn g36).offR g37 (no_b ap_hr_B4_4)
     replace ox := (ox.kn g36).offR g37 (no_b ap_ox_B4_4)
     replace HG := grown_newR (grown_trans HG g36) g37 lo_B4_4
     replace HB4_4 := h37
     refine tl_as (v := .int .i64 0) sv36 r6 fun a38 sv38 => ?_
     have sv39 : Sv 36 [] [(5, _), (29, _), (15, _), (16, _), (6, _), (8, _), (9, _), (10, _), (4, _), (2, _), (0, _), (1, _), (23, _), (28, _)] a38 := sv38.dl [30, 31, 32, 33, 34, 35, 7]
     refine tl_nil ?_
     refine k35 _ _ ?_
     refine wp_ret ?_
     repeat refine then_ret ?_
     refine cx_ret (fn := Try.f44) sv39 (res_ct (p := 4) (q := 5) Try.results44 sv39 rfl rfl rfl rfl (tyVa hsa hpo (.slice aoX (i + (ks.length - (i + 1))) capX) rfl) HB4_4) ?_
     exact VRes.mk2 (P := dropV (ks.map VK.p) o) (by unfold drpO; rw [if_pos hv, if_pos hf]) (map_del rfl hi) ox (KsR.del hr.2 i) (fun k hk => .inl (.inr (fpKs_del hk))) HG
set_option maxRecDepth 100000 in
set_option maxHeartbeats 4000000 in
theorem samev_walk (ks ms : List VK) (ao bo : Option Addr) (cap bap : Nat) (sa po : List Nat) (hsa : Dg sa) (hpo : Dg po) (hp : ks.map VK.p = ms.map VK.p) (w : World) (ha : RdK w (.slice ao ks.length cap) ks) (hb : RdK w (.slice bo ms.length bap) ms) :
   Calls Try.prog 38 #[vval sa po (.slice ao ks.length cap), vval sa po (.slice bo ms.length bap)] w fun e w' => e = .returned (.bool true) ∧ w.grownBy w' none := by
 have hlen := ha.len
 have hml := map_len hp
 refine cx_enter Try.func38 rfl Try.ntmps38 rfl fun a0 sv0 => ?_
 have HG := World.grownBy.refl w none
 replace sv0 : Sv 63 [] [(0, vval sa po (.slice ao ks.length cap)), (1, vval sa po (.slice bo ms.length bap))] a0 := sv0
 refine wp_seq_k fun K1 k1 => ?_
 refine wp_region_lit ?_
 refine tl_box sv0 rfl rfl rfl rfl rfl rfl (tyVa hsa hpo (.slice ao ks.length cap) rfl) fun a2 w2 B2_2 eq_B2_2 g2 z2 HB2_2 sv2 => ?_
 have lo_B2_2 := nb_lo HG eq_B2_2
 have ap_ha_B2_2 := nb_ap (ha.lt) eq_B2_2
 have ap_hb_B2_2 := nb_ap (hb.lt) eq_B2_2
 replace ha := ha.kn g2
 replace hb := hb.kn g2
 replace HG := grown_trans HG g2
 refine tl_box sv2 rfl rfl rfl rfl rfl rfl (tyVa hsa hpo (.slice bo ms.length bap) rfl) fun a3 w3 B3_3 eq_B3_3 g3 z3 HB3_3 sv3 => ?_
 have ne_B3_3_B2_2 := nb_ne HB2_2 eq_B3_3
 have lo_B3_3 := nb_lo HG eq_B3_3
 have ap_ha_B3_3 := nb_ap (ha.lt) eq_B3_3
 have ap_hb_B3_3 := nb_ap (hb.lt) eq_B3_3
 replace HB2_2 := rw_kn g3 HB2_2
 replace ha := ha.kn g3
 replace hb := hb.kn g3
 replace HG := grown_trans HG g3
 refine tl_as (v := .bool false) sv3 r6 fun a4 sv4 => ?_
 refine tl_nil ?_
 refine k1 _ _ ?_
 refine wp_seq_k fun K5 k5 => ?_
 refine wp_seq_k fun K6 k6 => ?_
 refine wp_region_lit ?_
 refine sx_hv sv4 21 [(6, pt B2_2), (7, dval sa), (8, pt B3_3), (9, dval sa), (10, .bool false), (11, .bool false), (12, pk B2_2 32), (13, dval po), (14, pk B3_3 32), (15, dval po), (16, .bool false), (17, .bool false), (18, .bool false), (19, pk B2_2 64), (20, .slice ao ks.length cap), (21, .int .i64 ((ks.length : Nat))), (22, pk B3_3 64), (23, .slice bo ms.length bap), (24, .int .i64 ((ms.length : Nat))), (25, .bool false), (26, .bool false)]
   ⟨yf r6 (fun _ => by kernel_rfl), yp (i := 0) r6 (tyD sa hsa.1) HB2_2 rfl rfl, yf r6 (fun _ => by kernel_rfl), yp (i := 0) r6 (tyD sa hsa.1) HB3_3 rfl rfl, ybt r7 (fun _ => by simpa using (dig_eqb hsa hsa _ _ _).2), ym r5, ox_field rfl rfl (gy rfl rfl rfl) (oy rfl rfl) (fun _ => by kernel_rfl) (fun _ => rfl), ox_load rfl rfl (gy rfl rfl rfl) (oy rfl rfl) (fun _ g => loadsAt (tyD po hpo.1) (range_part (L := [bv sa, bv po, [.slice ao ks.length cap]]) (i := 1) (row_of g HB2_2 (by simp)) rfl (by simp [bv_length, zero32_len, hsa.1, hpo.1]))) (fun _ => rfl), ox_field rfl rfl (gy rfl rfl rfl) (oy rfl rfl) (fun _ => by kernel_rfl) (fun _ => rfl), ox_load rfl rfl (gy rfl rfl rfl) (oy rfl rfl) (fun _ g => loadsAt (tyD po hpo.1) (range_part (L := [bv sa, bv po, [.slice bo ms.length bap]]) (i := 1) (row_of g HB3_3 (by simp)) rfl (by simp [bv_length, zero32_len, hsa.1, hpo.1]))) (fun _ => rfl), ox_bin rfl rfl (gy rfl rfl rfl) (oy rfl rfl) (oy rfl rfl) (fun _ => by simpa using (dig_eqb hpo hpo _ _ _).2) (fun _ => rfl), ox_pick rfl rfl trivial (oy rfl rfl) (oy rfl rfl) (fun _ => rfl), ym r5, ox_field rfl rfl (gy rfl rfl rfl) (oy rfl rfl) (fun _ => by kernel_rfl) (fun _ => rfl), ox_load rfl rfl (gy rfl rfl rfl) (oy rfl rfl) (fun _ g => loadsAt (tyKs (.slice ao ks.length cap) rfl) (range_part (L := [bv sa, bv po, [.slice ao ks.length cap]]) (i := 2) (row_of g HB2_2 (by simp)) rfl (by simp [bv_length, zero32_len, hsa.1, hpo.1]))) (fun _ => rfl), ox_len (Try.underlying56) rfl rfl (gy rfl rfl rfl) (oy rfl rfl) (fun _ => rfl), ox_field rfl rfl (gy rfl rfl rfl) (oy rfl rfl) (fun _ => by kernel_rfl) (fun _ => rfl), ox_load rfl rfl (gy rfl rfl rfl) (oy rfl rfl) (fun _ g => loadsAt (tyKs (.slice bo ms.length bap) rfl) (range_part (L := [bv sa, bv po, [.slice bo ms.length bap]]) (i := 2) (row_of g HB3_3 (by simp)) rfl (by simp [bv_length, zero32_len, hsa.1, hpo.1]))) (fun _ => rfl), ox_len (Try.underlying56) rfl rfl (gy rfl rfl rfl) (oy rfl rfl) (fun _ => rfl), ox_bin rfl rfl (gy rfl rfl rfl) (oy rfl rfl) (oy rfl rfl) (fun _ => rn_neq (by rw [hml]; simp)) (fun _ => rfl), ox_pick rfl rfl trivial (oy rfl rfl) (oy rfl rfl) (fun _ => rfl), trivial⟩ fun a7 w7 g7 sv7 => ?_
 refine tl_nil ?_
 refine k6 _ _ ?_
 refine cx_ifF sv7 rfl rfl ?_
 refine wp_skip ?_
 refine k5 _ _ ?_
 refine wp_seq_k fun K8 k8 => ?_
 refine wp_seq_k fun K9 k9 => ?_
 refine wp_region_lit ?_
 refine tl_as (v := .int .i64 0) sv7 r6 fun a10 sv10 => ?_
 refine tl_nil ?_
 refine k9 _ _ ?_
 refine cx_block fun Q11 x11 y11 r11 o11 => ?_
 replace HB2_2 := rw_kn g7 HB2_2
 replace HB3_3 := rw_kn g7 HB3_3
 replace ha := ha.kn g7
 replace hb := hb.kn g7
 replace HG := grown_trans HG g7
 refine wp_loop (fun a w' => ∃ (i : Nat), (i ≤ ks.length) ∧ Sv 63 [] [(5, .int .i64 ((i : Int))), (6, pt B2_2), (7, dval sa), (8, pt B3_3), (9, dval sa), (10, .bool false), (11, .bool false), (12, pk B2_2 32), (13, dval po), (14, pk B3_3 32), (15, dval po), (16, .bool false), (17, .bool false), (18, .bool false), (19, pk B2_2 64), (20, .slice ao ks.length cap), (21, .int .i64 ((ks.length : Nat))), (22, pk B3_3 64), (23, .slice bo ms.length bap), (24, .int .i64 ((ms.length : Nat))), (25, .bool false), (26, .bool false), (3, pt B3_3), (2, pt B2_2), (0, vval sa po (.slice ao ks.length cap)), (1, vval sa po (.slice bo ms.length bap))] a ∧ w.grownBy w' none ∧ w'.heap[B2_2]? = some (.cells ([bv sa, bv po, [.slice ao ks.length cap]].flatten).toArray 58 (0, 0)) ∧ w'.heap[B3_3]? = some (.cells ([bv sa, bv po, [.slice bo ms.length bap]].flatten).toArray 58 (0, 0)) ∧ RdK w' (.slice ao ks.length cap) ks ∧ RdK w' (.slice bo ms.length bap) ms) (fun a _ => (ks.length - intOf (a.tmps.getD 5 undef)).toNat) ⟨0, Nat.zero_le _, ⟨sv10.1, sv10.2.1, sv10.2.2.1, sv10.2.2.2.1, sv10.2.2.2.2.1, sv10.2.2.2.2.2.1, sv10.2.2.2.2.2.2.1, sv10.2.2.2.2.2.2.2.1, sv10.2.2.2.2.2.2.2.2.1, sv10.2.2.2.2.2.2.2.2.2.1, sv10.2.2.2.2.2.2.2.2.2.2.1, sv10.2.2.2.2.2.2.2.2.2.2.2.1, sv10.2.2.2.2.2.2.2.2.2.2.2.2.1, sv10.2.2.2.2.2.2.2.2.2.2.2.2.2.1, sv10.2.2.2.2.2.2.2.2.2.2.2.2.2.2.1, sv10.2.2.2.2.2.2.2.2.2.2.2.2.2.2.2.1, sv10.2.2.2.2.2.2.2.2.2.2.2.2.2.2.2.2.1, sv10.2.2.2.2.2.2.2.2.2.2.2.2.2.2.2.2.2.1, sv10.2.2.2.2.2.2.2.2.2.2.2.2.2.2.2.2.2.2.1, sv10.2.2.2.2.2.2.2.2.2.2.2.2.2.2.2.2.2.2.2.1, sv10.2.2.2.2.2.2.2.2.2.2.2.2.2.2.2.2.2.2.2.2.1, sv10.2.2.2.2.2.2.2.2.2.2.2.2.2.2.2.2.2.2.2.2.2.1, sv10.2.2.2.2.2.2.2.2.2.2.2.2.2.2.2.2.2.2.2.2.2.2.1, sv10.2.2.2.2.2.2.2.2.2.2.2.2.2.2.2.2.2.2.2.2.2.2.2.1, sv10.2.2.2.2.2.2.2.2.2.2.2.2.2.2.2.2.2.2.2.2.2.2.2.2.2.1, sv10.2.2.2.2.2.2.2.2.2.2.2.2.2.2.2.2.2.2.2.2.2.2.2.2.2.2.1, sv10.2.2.2.2.2.2.2.2.2.2.2.2.2.2.2.2.2.2.2.2.2.2.2.2.2.2.2.1, sv10.2.2.2.2.2.2.2.2.2.2.2.2.2.2.2.2.2.2.2.2.2.2.2.2.2.2.2.2.1, trivial⟩, HG, HB2_2, HB3_3, ha, hb⟩ fun a12 w12 hI12 => ?_
 clear HB2_2
 clear HB3_3
 clear ha
 clear hb
 clear HG
 obtain ⟨i, hin, sv12, HG, HB2_2, HB3_3, ha, hb⟩ := hI12
 refine wp_seq_k fun K13 k13 => ?_
 refine wp_seq_k fun K14 k14 => ?_
 by_cases hi : i < ks.length
 · have hj : i < ms.length := by omega
   obtain ⟨x, hx_x⟩ : ∃ x, ks[i]'hi = x := ⟨_, rfl⟩
   obtain ⟨y, hx_y⟩ : ∃ x, ms[i]'hj = x := ⟨_, rfl⟩
   have hxy := map_at hp hi hj hx_x hx_y
   refine wp_region_lit ?_
   refine sx_hv sv12 5 [(27, .int .i64 ((i : Int))), (28, pk B2_2 64), (29, .slice ao ks.length cap), (30, .int .i64 ((ks.length : Nat))), (31, .bool true)]
     ⟨ym r5, yf r6 (fun _ => by kernel_rfl), yp (i := 2) r6 (tyKs (.slice ao ks.length cap) rfl) HB2_2 rfl (by simp [bv_length, zero32_len, hsa.1, hpo.1]), ox_len (Try.underlying56) rfl rfl trivial (oy rfl rfl) (fun _ => rfl), ybt r7 (fun _ => rn_lss (decide_eq_true (by omega))), trivial⟩ fun a15 w15 g15 sv15 => ?_
   refine tl_nil ?_
   refine k14 _ _ ?_
   refine cx_ifT sv15 rfl rfl ?_
   refine wp_skip ?_
   refine k13 _ _ ?_
   refine wp_seq_k fun K16 k16 => ?_
   refine cx_block fun Q17 x17 y17 r17 o17 => ?_
   refine wp_seq_k fun K18 k18 => ?_
   replace HB2_2 := rw_kn g15 HB2_2
   replace HB3_3 := rw_kn g15 HB3_3
   replace ha := ha.kn g15
   replace hb := hb.kn g15
   replace HG := grown_trans HG g15
   refine rx_av sv15 [(34, pk B2_2 64), (35, .slice ao ks.length cap), (36, .int .i64 ((i : Int))), (37, pk ((bO ao)) (oO ao + i * 33)), (38, pk ((bO ao)) (oO ao + i * 33)), (39, dval x.o), (40, pk B3_3 64), (41, .slice bo ms.length bap), (42, .int .i64 ((i : Int))), (43, pk ((bO bo)) (oO bo + i * 33)), (44, pk ((bO bo)) (oO bo + i * 33)), (45, dval y.o), (46, .bool false), (47, .bool false), (48, pk B2_2 64), (49, .slice ao ks.length cap), (50, .int .i64 ((i : Int))), (51, pk ((bO ao)) (oO ao + i * 33)), (52, pk ((bO ao)) (oO ao + i * 33 + 32)), (53, .agg #[VK.s x]), (54, pk B3_3 64), (55, .slice bo ms.length bap), (56, .int .i64 ((i : Int))), (57, pk ((bO bo)) (oO bo + i * 33)), (58, pk ((bO bo)) (oO bo + i * 33 + 32)), (59, .agg #[VK.s y]), (60, .bool true), (61, .bool false), (62, .bool false)]
     ⟨yf r6 (fun _ => by kernel_rfl), yp (i := 2) r6 (tyKs (.slice ao ks.length cap) rfl) HB2_2 rfl (by simp [bv_length, zero32_len, hsa.1, hpo.1]), ym r5, ox_index rfl rfl trivial (oy rfl rfl) (oy rfl rfl) (fun w => ix_sl Try.underlying56 (by kernel_rfl) (ha.1.1) (by omega) (rfl) w) (fun _ => rfl), yf r6 (fun _ => by kernel_rfl), ox_load rfl rfl trivial (oy rfl rfl) (fun _ g => loadsAt (tyD x.o x.ho.1) (RdK.ownerX (ha.kn g) rfl hi hx_x)) (fun _ => rfl), yf r6 (fun _ => by kernel_rfl), yp (i := 2) r6 (tyKs (.slice bo ms.length bap) rfl) HB3_3 rfl (by simp [bv_length, zero32_len, hsa.1, hpo.1]), ym r5, ox_index rfl rfl trivial (oy rfl rfl) (oy rfl rfl) (fun w => ix_sl Try.underlying56 (by kernel_rfl) (hb.1.1) (by omega) (rfl) w) (fun _ => rfl), yf r6 (fun _ => by kernel_rfl), ox_load rfl rfl trivial (oy rfl rfl) (fun _ g => loadsAt (tyD y.o y.ho.1) (RdK.ownerX (hb.kn g) rfl hj hx_y)) (fun _ => rfl), ybt r7 (fun _ => (dig_eqb x.ho y.ho _ _ _).2.trans (by rw [decide_eq_true (hxy.1)]; rfl)), ym r5, ox_field rfl rfl (gy rfl rfl rfl) (oy rfl rfl) (fun _ => by kernel_rfl) (fun _ => rfl), ox_load rfl rfl (gy rfl rfl rfl) (oy rfl rfl) (fun _ g => loadsAt (tyKs (.slice ao ks.length cap) rfl) (range_part (L := [bv sa, bv po, [.slice ao ks.length cap]]) (i := 2) (row_of g HB2_2 (by simp)) rfl (by simp [bv_length, zero32_len, hsa.1, hpo.1]))) (fun _ => rfl), ox_move 5 50 (.inl rfl) rfl rfl (gy rfl rfl rfl) (fun _ _ h => h), ox_index rfl rfl (gy rfl rfl rfl) (oy rfl rfl) (oy rfl rfl) (fun w => ix_sl Try.underlying56 (by kernel_rfl) (ha.1.1) (by omega) (rfl) w) (fun _ => rfl), ox_field rfl rfl (gy rfl rfl rfl) (oy rfl rfl) (fun _ => by kernel_rfl) (fun _ => rfl), ox_load rfl rfl (gy rfl rfl rfl) (oy rfl rfl) (fun _ g => loadsAt (tyT (VK.s x) rfl) (RdK.treeX (ha.kn g) rfl hi hx_x)) (fun _ => rfl), ox_field rfl rfl (gy rfl rfl rfl) (oy rfl rfl) (fun _ => by kernel_rfl) (fun _ => rfl), ox_load rfl rfl (gy rfl rfl rfl) (oy rfl rfl) (fun _ g => loadsAt (tyKs (.slice bo ms.length bap) rfl) (range_part (L := [bv sa, bv po, [.slice bo ms.length bap]]) (i := 2) (row_of g HB3_3 (by simp)) rfl (by simp [bv_length, zero32_len, hsa.1, hpo.1]))) (fun _ => rfl), ox_move 5 56 (.inl rfl) rfl rfl (gy rfl rfl rfl) (fun _ _ h => h), ox_index rfl rfl (gy rfl rfl rfl) (oy rfl rfl) (oy rfl rfl) (fun w => ix_sl Try.underlying56 (by kernel_rfl) (hb.1.1) (by omega) (rfl) w) (fun _ => rfl), ox_field rfl rfl (gy rfl rfl rfl) (oy rfl rfl) (fun _ => by kernel_rfl) (fun _ => rfl), ox_load rfl rfl (gy rfl rfl rfl) (oy rfl rfl) (fun _ g => loadsAt (tyT (VK.s y) rfl) (RdK.treeX (hb.kn g) rfl hj hx_y)) (fun _ => rfl), ox_call (Sp.is (.bool true)) [.agg #[VK.s x], .agg #[VK.s y]] rfl rfl (gy rfl rfl rfl) ⟨(oy rfl rfl), (oy rfl rfl), trivial⟩ (is_on fun W g => sameTree_walk ((ha.kn g).kt hi hx_x) ((hb.kn g).kt2 hj hx_y hxy.2.symm)) (fun _ _ h => h) (enter_of Try.func26 (by kernel_rfl) rfl), ox_un rfl rfl (gy rfl rfl rfl) (oy rfl rfl) (fun _ => rn_not) (fun _ => rfl), ox_pick rfl rfl trivial (oy rfl rfl) (oy rfl rfl) (fun _ => rfl), trivial⟩ fun a19 w19 g19 sv19 => ?_
   refine k18 _ _ ?_
   refine cx_ifF sv19 rfl rfl ?_
   refine wp_skip ?_
   refine y17 _ _ ?_
   refine k16 _ _ ?_
   refine wp_region_lit ?_
   refine sx_hv sv19 2 [(32, .int .i64 ((i : Int))), (33, .int .i64 (((i + 1 : Nat) : Int)))]
     ⟨ym r5, ybc r6 (fun _ => rn_add (by rw [wrap_i64 (by omega) (by omega)]; omega)), trivial⟩ fun a20 w20 g20 sv20 => ?_
   have gc20 := grown_trans g19 g20
   refine tl_as (v := .int .i64 (((i + 1 : Nat) : Int))) sv20 r6 fun a21 sv21 => ?_
   refine tl_nil ?_
   replace HB2_2 := rw_kn gc20 HB2_2
   replace HB3_3 := rw_kn gc20 HB3_3
   replace ha := ha.kn gc20
   replace hb := hb.kn gc20
   replace HG := grown_trans HG gc20
   exact ⟨⟨i + 1, by omega, ⟨sv21.1, sv21.2.1, sv21.2.2.1, sv21.2.2.2.2.2.2.2.2.2.2.2.2.2.2.2.2.2.2.2.2.2.2.2.2.2.2.2.2.2.2.2.2.2.2.2.2.2.2.2.1, sv21.2.2.2.2.2.2.2.2.2.2.2.2.2.2.2.2.2.2.2.2.2.2.2.2.2.2.2.2.2.2.2.2.2.2.2.2.2.2.2.2.1, sv21.2.2.2.2.2.2.2.2.2.2.2.2.2.2.2.2.2.2.2.2.2.2.2.2.2.2.2.2.2.2.2.2.2.2.2.2.2.2.2.2.2.1, sv21.2.2.2.2.2.2.2.2.2.2.2.2.2.2.2.2.2.2.2.2.2.2.2.2.2.2.2.2.2.2.2.2.2.2.2.2.2.2.2.2.2.2.1, sv21.2.2.2.2.2.2.2.2.2.2.2.2.2.2.2.2.2.2.2.2.2.2.2.2.2.2.2.2.2.2.2.2.2.2.2.2.2.2.2.2.2.2.2.1, sv21.2.2.2.2.2.2.2.2.2.2.2.2.2.2.2.2.2.2.2.2.2.2.2.2.2.2.2.2.2.2.2.2.2.2.2.2.2.2.2.2.2.2.2.2.1, sv21.2.2.2.2.2.2.2.2.2.2.2.2.2.2.2.2.2.2.2.2.2.2.2.2.2.2.2.2.2.2.2.2.2.2.2.2.2.2.2.2.2.2.2.2.2.1, sv21.2.2.2.2.2.2.2.2.2.2.2.2.2.2.2.2.2.2.2.2.2.2.2.2.2.2.2.2.2.2.2.2.2.2.2.2.2.2.2.2.2.2.2.2.2.2.1, sv21.2.2.2.2.2.2.2.2.2.2.2.2.2.2.2.2.2.2.2.2.2.2.2.2.2.2.2.2.2.2.2.2.2.2.2.2.2.2.2.2.2.2.2.2.2.2.2.1, sv21.2.2.2.2.2.2.2.2.2.2.2.2.2.2.2.2.2.2.2.2.2.2.2.2.2.2.2.2.2.2.2.2.2.2.2.2.2.2.2.2.2.2.2.2.2.2.2.2.1, sv21.2.2.2.2.2.2.2.2.2.2.2.2.2.2.2.2.2.2.2.2.2.2.2.2.2.2.2.2.2.2.2.2.2.2.2.2.2.2.2.2.2.2.2.2.2.2.2.2.2.1, sv21.2.2.2.2.2.2.2.2.2.2.2.2.2.2.2.2.2.2.2.2.2.2.2.2.2.2.2.2.2.2.2.2.2.2.2.2.2.2.2.2.2.2.2.2.2.2.2.2.2.2.1, sv21.2.2.2.2.2.2.2.2.2.2.2.2.2.2.2.2.2.2.2.2.2.2.2.2.2.2.2.2.2.2.2.2.2.2.2.2.2.2.2.2.2.2.2.2.2.2.2.2.2.2.2.1, sv21.2.2.2.2.2.2.2.2.2.2.2.2.2.2.2.2.2.2.2.2.2.2.2.2.2.2.2.2.2.2.2.2.2.2.2.2.2.2.2.2.2.2.2.2.2.2.2.2.2.2.2.2.1, sv21.2.2.2.2.2.2.2.2.2.2.2.2.2.2.2.2.2.2.2.2.2.2.2.2.2.2.2.2.2.2.2.2.2.2.2.2.2.2.2.2.2.2.2.2.2.2.2.2.2.2.2.2.2.1, sv21.2.2.2.2.2.2.2.2.2.2.2.2.2.2.2.2.2.2.2.2.2.2.2.2.2.2.2.2.2.2.2.2.2.2.2.2.2.2.2.2.2.2.2.2.2.2.2.2.2.2.2.2.2.2.1, sv21.2.2.2.2.2.2.2.2.2.2.2.2.2.2.2.2.2.2.2.2.2.2.2.2.2.2.2.2.2.2.2.2.2.2.2.2.2.2.2.2.2.2.2.2.2.2.2.2.2.2.2.2.2.2.2.1, sv21.2.2.2.2.2.2.2.2.2.2.2.2.2.2.2.2.2.2.2.2.2.2.2.2.2.2.2.2.2.2.2.2.2.2.2.2.2.2.2.2.2.2.2.2.2.2.2.2.2.2.2.2.2.2.2.2.1, sv21.2.2.2.2.2.2.2.2.2.2.2.2.2.2.2.2.2.2.2.2.2.2.2.2.2.2.2.2.2.2.2.2.2.2.2.2.2.2.2.2.2.2.2.2.2.2.2.2.2.2.2.2.2.2.2.2.2.1, sv21.2.2.2.2.2.2.2.2.2.2.2.2.2.2.2.2.2.2.2.2.2.2.2.2.2.2.2.2.2.2.2.2.2.2.2.2.2.2.2.2.2.2.2.2.2.2.2.2.2.2.2.2.2.2.2.2.2.2.1, sv21.2.2.2.2.2.2.2.2.2.2.2.2.2.2.2.2.2.2.2.2.2.2.2.2.2.2.2.2.2.2.2.2.2.2.2.2.2.2.2.2.2.2.2.2.2.2.2.2.2.2.2.2.2.2.2.2.2.2.2.1, sv21.2.2.2.2.2.2.2.2.2.2.2.2.2.2.2.2.2.2.2.2.2.2.2.2.2.2.2.2.2.2.2.2.2.2.2.2.2.2.2.2.2.2.2.2.2.2.2.2.2.2.2.2.2.2.2.2.2.2.2.2.1, sv21.2.2.2.2.2.2.2.2.2.2.2.2.2.2.2.2.2.2.2.2.2.2.2.2.2.2.2.2.2.2.2.2.2.2.2.2.2.2.2.2.2.2.2.2.2.2.2.2.2.2.2.2.2.2.2.2.2.2.2.2.2.1, sv21.2.2.2.2.2.2.2.2.2.2.2.2.2.2.2.2.2.2.2.2.2.2.2.2.2.2.2.2.2.2.2.2.2.2.2.2.2.2.2.2.2.2.2.2.2.2.2.2.2.2.2.2.2.2.2.2.2.2.2.2.2.2.1, sv21.2.2.2.2.2.2.2.2.2.2.2.2.2.2.2.2.2.2.2.2.2.2.2.2.2.2.2.2.2.2.2.2.2.2.2.2.2.2.2.2.2.2.2.2.2.2.2.2.2.2.2.2.2.2.2.2.2.2.2.2.2.2.2.1, trivial⟩, HG, HB2_2, HB3_3, ha, hb⟩, by rw [show _ = _ from sv21.2.2.1, show _ = _ from sv12.2.2.1]; simp [intOf]; omega⟩
 · refine wp_region_lit ?_
   refine sx_hv sv12 5 [(27, .int .i64 ((i : Int))), (28, pk B2_2 64), (29, .slice ao ks.length cap), (30, .int .i64 ((ks.length : Nat))), (31, .bool false)]
     ⟨ym r5, yf r6 (fun _ => by kernel_rfl), yp (i := 2) r6 (tyKs (.slice ao ks.length cap) rfl) HB2_2 rfl (by simp [bv_length, zero32_len, hsa.1, hpo.1]), ox_len (Try.underlying56) rfl rfl trivial (oy rfl rfl) (fun _ => rfl), ybt r7 (fun _ => rn_lss (decide_eq_false (by omega))), trivial⟩ fun a22 w22 g22 sv22 => ?_
   refine tl_nil ?_
   refine k14 _ _ ?_
   refine cx_ifF sv22 rfl rfl ?_
   refine wp_exit ?_
   repeat refine then_exit ?_
   refine x11 _ _ ?_
   refine k8 _ _ ?_
   refine wp_seq_k fun K23 k23 => ?_
   refine wp_region_lit ?_
   refine tl_as (v := .bool true) sv22 r6 fun a24 sv24 => ?_
   refine tl_nil ?_
   refine k23 _ _ ?_
   replace HB2_2 := rw_kn g22 HB2_2
   replace HB3_3 := rw_kn g22 HB3_3
   replace ha := ha.kn g22
   replace hb := hb.kn g22
   replace HG := grown_trans HG g22
   refine wp_ret ?_
   repeat refine then_ret ?_
   refine cx_ret (fn := Try.f38) sv24 (res_tmp (p := 4) Try.results38 sv24 rfl rfl) ?_
   exact ⟨rfl, HG⟩
end Go.Proofs.Yteakoleceoclkaa
