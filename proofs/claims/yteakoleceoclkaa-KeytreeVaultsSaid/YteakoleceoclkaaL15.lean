/- Key trees: the law KeytreeVaults. (printed by gen_l15.py) -/
import Derived.Test.YteakoleceoclkaaVG
namespace Go.Proofs.Yteakoleceoclkaa
open Go.RowKit Go.Shelf
set_option linter.unusedSimpArgs false
set_option linter.unusedVariables false
set_option maxRecDepth 100000 in
set_option maxHeartbeats 4000000 in
theorem vaults_walk (seed : List Nat) (hse : Dg seed) (l : List Ac) (ax : Option Addr) (cax : Nat) (w : World) (hl : SlB w 3 (.slice ax l.length cax) l.length (l.flatMap acells)) :
   Calls Try.prog 15 #[dval seed, .slice ax l.length cax] w fun e w' => e = .returned (.bool true) ∧ w.grownBy w' none := by
 obtain ⟨s0, hs0⟩ : ∃ x, kd 273 seed = x := ⟨_, rfl⟩
 have hs0d : Dg s0 := hs0 ▸ kd_dg _ _
 obtain ⟨p0, hp0⟩ : ∃ x, kd 274 seed = x := ⟨_, rfl⟩
 have hp0d : Dg p0 := hp0 ▸ kd_dg _ _
 refine cx_enter Try.func15 rfl Try.ntmps15 rfl fun a0 sv0 => ?_
 have HG := World.grownBy.refl w none
 replace sv0 : Sv 50 [] [(0, dval seed), (1, .slice ax l.length cax)] a0 := sv0
 refine wp_seq_k fun K1 k1 => ?_
 refine wp_region_lit ?_
 refine tl_box sv0 rfl rfl rfl rfl rfl rfl (tyD seed hse.1) fun a2 w2 B2_2 eq_B2_2 g2 z2 HB2_2 sv2 => ?_
 have lo_B2_2 := nb_lo HG eq_B2_2
 have ap_hl_B2_2 := nb_ap (hl.lt) eq_B2_2
 replace hl := hl.kn g2
 replace HG := grown_trans HG g2
 refine tl_as (v := .bool false) sv2 r6 fun a3 sv3 => ?_
 refine tl_nil ?_
 refine k1 _ _ ?_
 refine wp_seq_k fun K4 k4 => ?_
 refine rx_tail (sv3.st w2) (by kernel_rfl) 6 [(11, Sp.is (dval seed)), (12, Sp.is (vval s0 p0 (.slice none 0 0))), (13, Sp.is (dval seed)), (14, Sp.is (vval s0 p0 (.slice none 0 0))), (5, Sp.new w2.heap.size (([bv zero32, bv zero32, [.slice none 0 0]].flatten)) 58), (6, Sp.new w2.heap.size (([bv zero32, bv zero32, [.slice none 0 0]].flatten)) 58)] rfl (by kernel_rfl) (by kernel_rfl) (by kernel_rfl) [] (by kernel_rfl)
   ⟨yl r6 (tyD seed hse.1) HB2_2, ox_call (Sp.is (vval s0 p0 (.slice none 0 0))) [dval seed] rfl rfl trivial ⟨(oy rfl rfl), trivial⟩ (is_on fun W g => by rw [← hs0, ← hp0]; exact newv_walk seed hse W) (fun _ _ h => h) (enter_of Try.func35 (by kernel_rfl) rfl), yl r6 (tyD seed hse.1) HB2_2, ox_call (Sp.is (vval s0 p0 (.slice none 0 0))) [dval seed] rfl rfl trivial ⟨(oy rfl rfl), trivial⟩ (is_on fun W g => by rw [← hs0, ← hp0]; exact rnewv_walk seed hse W) (fun _ _ h => h) (enter_of Try.func49 (by kernel_rfl) rfl), ox_alloc rfl trivial (Nat.le_refl _) (fun a w => by kernel_rfl) (fun _ _ h => h), ox_alloc rfl trivial (Nat.le_refl _) (fun a w => by kernel_rfl) (fun _ _ h => h), trivial⟩ trivial
   [5, 6] (by kernel_rfl) ⟨Sp.new_lt, Sp.new_lt, trivial⟩ ⟨.inl rfl, .inl rfl, .inl rfl, .inl rfl, .inr ⟨rfl, (([bv zero32, bv zero32, [.slice none 0 0]].flatten)).toArray, 58, fun a w => by kernel_rfl⟩, .inr ⟨rfl, (([bv zero32, bv zero32, [.slice none 0 0]].flatten)).toArray, 58, fun a w => by kernel_rfl⟩, trivial⟩ (by kernel_rfl) fun a5 w5 g5 st5 nd5 => ?_
 obtain ⟨hn5, hd5, e5_11, e5_12, e5_13, e5_14, e5_5, e5_6, e5_4, e5_2, e5_0, e5_1, -⟩ := st5
 obtain ⟨B5_5, e5_5q, ge_B5_5, HB5_5⟩ := e5_5
 obtain ⟨B6_5, e5_6q, ge_B6_5, HB6_5⟩ := e5_6
 have ne_B5_5_B2_2 := nh_ne HB2_2 ge_B5_5
 have lo_B5_5 := nh_lo HG ge_B5_5
 have ap_hl_B5_5 := nh_ap (hl.lt) ge_B5_5
 have ne_B6_5_B2_2 := nh_ne HB2_2 ge_B6_5
 have lo_B6_5 := nh_lo HG ge_B6_5
 have ap_hl_B6_5 := nh_ap (hl.lt) ge_B6_5
 have ne_B6_5_B5_5 : B6_5 ≠ B5_5 := fun h => nd5 6 (by simp) 5 (by simp) (by decide) (e5_6q.trans (by rw [e5_5q, h]))
 replace HB2_2 := rw_kn g5 HB2_2
 replace hl := hl.kn g5
 replace HG := grown_trans HG g5
 have sv5 : Sv 50 [] [(4, _), (2, _), (0, _), (1, _), (12, _), (14, _), (5, _), (6, _)] a5 := ⟨hn5, hd5, e5_4, e5_2, e5_0, e5_1, e5_12, e5_14, e5_5q, e5_6q, trivial⟩
 refine tl_sw sv5 r7 (tyVa hs0d hp0d (.slice none 0 0) rfl) HB5_5 (by first | rfl | simp [kcells, bv_length, zero32_len, hs0d.1, hp0d.1]) fun w6 g6 h6 => ?_
 replace HB2_2 := rw_st g6 HB2_2 (Ne.symm ne_B5_5_B2_2)
 replace HB6_5 := rw_st g6 HB6_5 ne_B6_5_B5_5
 replace hl := hl.offR g6 (no_b ap_hl_B5_5)
 replace HG := grown_newR HG g6 lo_B5_5
 replace HB5_5 := h6
 refine tl_sw sv5 r7 (tyVa hs0d hp0d (.slice none 0 0) rfl) HB6_5 (by first | rfl | simp [kcells, bv_length, zero32_len, hs0d.1, hp0d.1]) fun w7 g7 h7 => ?_
 replace HB2_2 := rw_st g7 HB2_2 (Ne.symm ne_B6_5_B2_2)
 replace HB5_5 := rw_st g7 HB5_5 (Ne.symm ne_B6_5_B5_5)
 replace hl := hl.offR g7 (no_b ap_hl_B6_5)
 replace HG := grown_newR HG g7 lo_B6_5
 replace HB6_5 := h7
 refine tl_nil ?_
 refine k4 _ _ ?_
 refine wp_seq_k fun K8 k8 => ?_
 refine wp_seq_k fun K9 k9 => ?_
 refine wp_region_lit ?_
 refine sx_hv sv5 4 [(15, vval s0 p0 (.slice none 0 0)), (16, vval s0 p0 (.slice none 0 0)), (17, .bool true), (18, .bool false)]
   ⟨yl r6 (tyVa hs0d hp0d (.slice none 0 0) rfl) HB5_5, yl r6 (tyVa hs0d hp0d (.slice none 0 0) rfl) HB6_5, ox_call (Sp.is (.bool true)) [vval s0 p0 (.slice none 0 0), vval s0 p0 (.slice none 0 0)] rfl rfl trivial ⟨(oy rfl rfl), (oy rfl rfl), trivial⟩ (is_on fun W g => samev_walk [] [] _ _ _ _ _ _ hs0d hp0d rfl W (RdK.nil W) (RdK.nil W)) (fun _ _ h => h) (enter_of Try.func38 (by kernel_rfl) rfl), ox_un rfl rfl trivial (oy rfl rfl) (fun _ => rn_not) (fun _ => rfl), trivial⟩ fun a10 w10 g10 sv10 => ?_
 refine tl_nil ?_
 refine k9 _ _ ?_
 refine cx_ifF sv10 rfl rfl ?_
 refine wp_skip ?_
 refine k8 _ _ ?_
 refine wp_seq_k fun K11 k11 => ?_
 refine wp_seq_k fun K12 k12 => ?_
 refine wp_region_lit ?_
 refine tl_as (v := .int .i64 0) sv10 r6 fun a13 sv13 => ?_
 refine tl_nil ?_
 refine k12 _ _ ?_
 refine cx_block fun Q14 x14 y14 r14 o14 => ?_
 replace HB2_2 := rw_kn g10 HB2_2
 replace HB5_5 := rw_kn g10 HB5_5
 replace HB6_5 := rw_kn g10 HB6_5
 replace hl := hl.kn g10
 replace HG := grown_trans HG g10
 have hr5 := RdK.nil w10
 have ap_hr5_B2_2 : ∀ k, fpK (.slice none 0 0) [] k → k ≠ B2_2 := fun k hk => (fpK_nil k hk).elim
 have ap_hr5_B5_5 : ∀ k, fpK (.slice none 0 0) [] k → k ≠ B5_5 := fun k hk => (fpK_nil k hk).elim
 have ap_hr5_B6_5 : ∀ k, fpK (.slice none 0 0) [] k → k ≠ B6_5 := fun k hk => (fpK_nil k hk).elim
 have hr6 := RdK.nil w10
 have ap_hr6_B2_2 : ∀ k, fpK (.slice none 0 0) [] k → k ≠ B2_2 := fun k hk => (fpK_nil k hk).elim
 have ap_hr6_B5_5 : ∀ k, fpK (.slice none 0 0) [] k → k ≠ B5_5 := fun k hk => (fpK_nil k hk).elim
 have ap_hr6_B6_5 : ∀ k, fpK (.slice none 0 0) [] k → k ≠ B6_5 := fun k hk => (fpK_nil k hk).elim
 refine wp_loop (fun a w' => ∃ (i : Nat) (P : List VP) (sa : List Nat) (po : List Nat) (ks : List VK) (ao : Option Addr) (cap : Nat) (ms : List VK) (bo : Option Addr) (bap : Nat), (i ≤ 14) ∧ (i ≤ l.length) ∧ (Dg sa) ∧ (Dg po) ∧ (GInv P i) ∧ (ks.map VK.p = P) ∧ (ms.map VK.p = P) ∧ Sv 50 [] [(7, .int .i64 ((i : Int))), (15, vval s0 p0 (.slice none 0 0)), (16, vval s0 p0 (.slice none 0 0)), (17, .bool true), (18, .bool false), (2, pt B2_2), (0, dval seed), (1, .slice ax l.length cax), (12, vval s0 p0 (.slice none 0 0)), (14, vval s0 p0 (.slice none 0 0)), (5, pt B5_5), (6, pt B6_5)] a ∧ w.grownBy w' none ∧ w'.heap[B2_2]? = some (.cells (bv seed).toArray 29 (0, 0)) ∧ w'.heap[B5_5]? = some (.cells ([bv sa, bv po, [.slice ao ks.length cap]].flatten).toArray 58 (0, 0)) ∧ w'.heap[B6_5]? = some (.cells ([bv sa, bv po, [.slice bo ms.length bap]].flatten).toArray 58 (0, 0)) ∧ SlB w' 3 (.slice ax l.length cax) l.length (l.flatMap acells) ∧ RdK w' (.slice ao ks.length cap) ks ∧ RdK w' (.slice bo ms.length bap) ms ∧ (∀ k, fpK (.slice ao ks.length cap) ks k → k ≠ B2_2) ∧ (∀ k, fpK (.slice ao ks.length cap) ks k → k ≠ B5_5) ∧ (∀ k, fpK (.slice ao ks.length cap) ks k → k ≠ B6_5) ∧ (∀ k, fpK (.slice bo ms.length bap) ms k → k ≠ B2_2) ∧ (∀ k, fpK (.slice bo ms.length bap) ms k → k ≠ B5_5) ∧ (∀ k, fpK (.slice bo ms.length bap) ms k → k ≠ B6_5)) (fun a _ => (14 - intOf (a.tmps.getD 7 undef)).toNat) ⟨0, [], s0, p0, [], none, 0, [], none, 0, by omega, by omega, hs0d, hp0d, GInv.zero, rfl, rfl, ⟨sv13.1, sv13.2.1, sv13.2.2.1, sv13.2.2.2.1, sv13.2.2.2.2.1, sv13.2.2.2.2.2.1, sv13.2.2.2.2.2.2.1, sv13.2.2.2.2.2.2.2.2.1, sv13.2.2.2.2.2.2.2.2.2.1, sv13.2.2.2.2.2.2.2.2.2.2.1, sv13.2.2.2.2.2.2.2.2.2.2.2.1, sv13.2.2.2.2.2.2.2.2.2.2.2.2.1, sv13.2.2.2.2.2.2.2.2.2.2.2.2.2.1, sv13.2.2.2.2.2.2.2.2.2.2.2.2.2.2.1, trivial⟩, HG, HB2_2, HB5_5, HB6_5, hl, hr5, hr6, ap_hr5_B2_2, ap_hr5_B5_5, ap_hr5_B6_5, ap_hr6_B2_2, ap_hr6_B5_5, ap_hr6_B6_5⟩ fun a15 w15 hI15 => ?_
 clear HB2_2
 clear HB5_5
 clear HB6_5
 clear hl
 clear hr5
 clear hr6
 clear HG
 obtain ⟨i, P, sa, po, ks, ao, cap, ms, bo, bap, hi14, hil, hsa, hpo, hG, hm, hm2, sv15, HG, HB2_2, HB5_5, HB6_5, hl, hr5, hr6, ap_hr5_B2_2, ap_hr5_B5_5, ap_hr5_B6_5, ap_hr6_B2_2, ap_hr6_B5_5, ap_hr6_B6_5⟩ := hI15
 refine wp_seq_k fun K16 k16 => ?_
 refine wp_seq_k fun K17 k17 => ?_
 rcases (show (i < l.length ∧ i < 14) ∨ (i < l.length ∧ ¬ i < 14) ∨ ¬ i < l.length by omega) with ⟨hl1, h14⟩ | ⟨hl1, h14⟩ | hl1
 · obtain ⟨c, hx_c⟩ : ∃ x, l[i]'hl1 = x := ⟨_, rfl⟩
   obtain ⟨r, hr⟩ : ∃ r, stpV (P, sa, po) c = r := ⟨_, rfl⟩
   have hD2 : VDg r := hr ▸ stpV_dg ⟨hsa, hpo⟩ c
   have hG2 : GInv r.1 (i + 1) := hr ▸ hG.step h14 c
   refine wp_region_lit ?_
   refine sx_hv sv15 8 [(19, .int .i64 ((i : Int))), (20, .slice ax l.length cax), (21, .int .i64 ((l.length : Nat))), (22, .bool true), (23, .bool true), (24, .int .i64 ((i : Int))), (25, .bool true), (26, .bool true)]
     ⟨ym r5, ym r5, ox_len (Try.underlying76) rfl rfl trivial (oy rfl rfl) (fun _ => rfl), ybt r7 (fun _ => rn_lss (decide_eq_true (by omega))), ym r5, ox_move 7 24 (.inl rfl) rfl rfl (gy rfl rfl rfl) (fun _ _ h => h), ox_bin rfl rfl (gy rfl rfl rfl) (oy rfl rfl) rfl (fun _ => rn_lss (decide_eq_true (by omega))) (fun _ => rfl), ox_pick rfl rfl trivial (oy rfl rfl) (oy rfl rfl) (fun _ => rfl), trivial⟩ fun a18 w18 g18 sv18 => ?_
   refine tl_nil ?_
   refine k17 _ _ ?_
   refine cx_ifT sv18 rfl rfl ?_
   refine wp_skip ?_
   refine k16 _ _ ?_
   refine wp_seq_k fun K19 k19 => ?_
   refine cx_block fun Q20 x20 y20 r20 o20 => ?_
   refine wp_seq_k fun K21 k21 => ?_
   replace HB2_2 := rw_kn g18 HB2_2
   replace HB5_5 := rw_kn g18 HB5_5
   replace HB6_5 := rw_kn g18 HB6_5
   replace hl := hl.kn g18
   replace hr5 := hr5.kn g18
   replace hr6 := hr6.kn g18
   replace HG := grown_trans HG g18
   refine rx_tail (sv18.st w18) (by kernel_rfl) 13 [(30, Sp.is (vval sa po (.slice ao ks.length cap))), (31, Sp.is (vval sa po (.slice bo ms.length bap))), (32, Sp.is (.slice ax l.length cax)), (33, Sp.is (.int .i64 ((i : Int)))), (34, Sp.is (pk ((bO ax)) (oO ax + i * 3))), (35, Sp.is (aval c)), (36, Sp.st r (fpK (.slice ao ks.length cap) ks) (fpK (.slice bo ms.length bap) ms)), (29, Sp.st r (fpK (.slice ao ks.length cap) ks) (fpK (.slice bo ms.length bap) ms)), (37, Sp.vv r (fpK (.slice ao ks.length cap) ks)), (38, Sp.vv r (fpK (.slice bo ms.length bap) ms)), (39, Sp.is (.bool true)), (8, Sp.new w18.heap.size (([bv zero32, bv zero32, [.slice none 0 0]].flatten)) 58), (9, Sp.new w18.heap.size (([bv zero32, bv zero32, [.slice none 0 0]].flatten)) 58)] rfl (by kernel_rfl) (by kernel_rfl) (by kernel_rfl) [9, 10] (by kernel_rfl)
     ⟨yl r6 (tyVa hsa hpo (.slice ao ks.length cap) rfl) HB5_5, yl r6 (tyVa hsa hpo (.slice bo ms.length bap) rfl) HB6_5, ym r5, ym r5, ox_index rfl rfl trivial (oy rfl rfl) (oy rfl rfl) (fun w => ix_sl Try.underlying76 (by kernel_rfl) (hl.1) (by omega) (rfl) w) (fun _ => rfl), ox_load rfl rfl trivial (oy rfl rfl) (fun _ g => loadsAt (tyAc c) (by rw [← hx_c]; exact el_range (hl.kn g).1 acells_len hl1 (by decide))) (fun _ => rfl), ox_call (Sp.st r (fpK (.slice ao ks.length cap) ks) (fpK (.slice bo ms.length bap) ms)) [vval sa po (.slice ao ks.length cap), vval sa po (.slice bo ms.length bap), aval c] rfl rfl trivial ⟨(oy rfl rfl), (oy rfl rfl), (oy rfl rfl), trivial⟩ (step_on hsa hpo hm hm2 hr5 hr6 hr) (fun _ _ h => h) (enter_of Try.func50 (by kernel_rfl) rfl), ym r5, ox_extract rfl rfl rfl trivial (fun w u h => st_v w u h), ox_extract rfl rfl rfl trivial (fun w u h => st_w w u h), ox_extract rfl rfl rfl trivial (fun w u h => st_ok w u h), ox_alloc rfl trivial (Nat.le_refl _) (fun a w => by kernel_rfl) (fun _ _ h => h), ox_alloc rfl trivial (Nat.le_refl _) (fun a w => by kernel_rfl) (fun _ _ h => h), trivial⟩ ⟨fun o ho => by obtain rfl := Option.some.inj ho; exact px_extract rfl rfl rfl trivial (fun w u h => st_w w u h), fun o ho => by obtain rfl := Option.some.inj ho; exact px_extract rfl rfl rfl trivial (fun w u h => st_ok w u h), trivial⟩
     [8, 9] (by kernel_rfl) ⟨Sp.new_lt, Sp.new_lt, trivial⟩ ⟨.inl rfl, .inl rfl, .inl rfl, .inl rfl, .inl rfl, .inl rfl, .inl rfl, .inl rfl, .inl rfl, .inl rfl, .inl rfl, .inr ⟨rfl, (([bv zero32, bv zero32, [.slice none 0 0]].flatten)).toArray, 58, fun a w => by kernel_rfl⟩, .inr ⟨rfl, (([bv zero32, bv zero32, [.slice none 0 0]].flatten)).toArray, 58, fun a w => by kernel_rfl⟩, trivial⟩ (by kernel_rfl) fun a22 w22 g22 st22 nd22 => ?_
   obtain ⟨hn22, hd22, e22_30, e22_31, e22_32, e22_33, e22_34, e22_35, e22_36, e22_29, e22_37, e22_38, e22_39, e22_8, e22_9, e22_19, e22_20, e22_21, e22_22, e22_23, e22_24, e22_25, e22_26, e22_7, e22_15, e22_16, e22_17, e22_18, e22_2, e22_0, e22_1, e22_12, e22_14, e22_5, e22_6, -⟩ := st22
   obtain ⟨ao23, cap23, ks23, e22_37q, hp23, hk23, hf23⟩ := e22_37
   obtain ⟨ao24, cap24, ks24, e22_38q, hp24, hk24, hf24⟩ := e22_38
   obtain ⟨B8_22, e22_8q, ge_B8_22, HB8_22⟩ := e22_8
   obtain ⟨B9_22, e22_9q, ge_B9_22, HB9_22⟩ := e22_9
   have ne_B8_22_B2_2 := nh_ne HB2_2 ge_B8_22
   have ne_B8_22_B5_5 := nh_ne HB5_5 ge_B8_22
   have ne_B8_22_B6_5 := nh_ne HB6_5 ge_B8_22
   have lo_B8_22 := nh_lo HG ge_B8_22
   have ap_hl_B8_22 := nh_ap (hl.lt) ge_B8_22
   have ap_hr5_B8_22 := nh_ap (hr5.lt) ge_B8_22
   have ap_hr6_B8_22 := nh_ap (hr6.lt) ge_B8_22
   have ne_B9_22_B2_2 := nh_ne HB2_2 ge_B9_22
   have ne_B9_22_B5_5 := nh_ne HB5_5 ge_B9_22
   have ne_B9_22_B6_5 := nh_ne HB6_5 ge_B9_22
   have lo_B9_22 := nh_lo HG ge_B9_22
   have ap_hl_B9_22 := nh_ap (hl.lt) ge_B9_22
   have ap_hr5_B9_22 := nh_ap (hr5.lt) ge_B9_22
   have ap_hr6_B9_22 := nh_ap (hr6.lt) ge_B9_22
   have ne_B9_22_B8_22 : B9_22 ≠ B8_22 := fun h => nd22 9 (by simp) 8 (by simp) (by decide) (e22_9q.trans (by rw [e22_8q, h]))
   replace HB2_2 := rw_kn g22 HB2_2
   replace HB5_5 := rw_kn g22 HB5_5
   replace HB6_5 := rw_kn g22 HB6_5
   replace hl := hl.kn g22
   replace hr5 := hr5.kn g22
   replace hr6 := hr6.kn g22
   replace HG := grown_trans HG g22
   have ap_hk23_B2_2 := vt_ap1 hf23 ap_hr5_B2_2 HB2_2 (by decide)
   have ap_hk23_B5_5 := vt_ap1 hf23 ap_hr5_B5_5 HB5_5 (by decide)
   have ap_hk23_B6_5 := vt_ap1 hf23 ap_hr5_B6_5 HB6_5 (by decide)
   have ap_hk23_B8_22 := vt_ap1 hf23 ap_hr5_B8_22 HB8_22 (by decide)
   have ap_hk23_B9_22 := vt_ap1 hf23 ap_hr5_B9_22 HB9_22 (by decide)
   have ap_hk24_B2_2 := vt_ap1 hf24 ap_hr6_B2_2 HB2_2 (by decide)
   have ap_hk24_B5_5 := vt_ap1 hf24 ap_hr6_B5_5 HB5_5 (by decide)
   have ap_hk24_B6_5 := vt_ap1 hf24 ap_hr6_B6_5 HB6_5 (by decide)
   have ap_hk24_B8_22 := vt_ap1 hf24 ap_hr6_B8_22 HB8_22 (by decide)
   have ap_hk24_B9_22 := vt_ap1 hf24 ap_hr6_B9_22 HB9_22 (by decide)
   have sv22 : Sv 50 [] [(19, _), (20, _), (21, _), (22, _), (23, _), (24, _), (25, _), (26, _), (7, _), (15, _), (16, _), (17, _), (18, _), (2, _), (0, _), (1, _), (12, _), (14, _), (5, _), (6, _), (37, _), (38, _), (39, _), (8, _), (9, _)] a22 := ⟨hn22, hd22, e22_19, e22_20, e22_21, e22_22, e22_23, e22_24, e22_25, e22_26, e22_7, e22_15, e22_16, e22_17, e22_18, e22_2, e22_0, e22_1, e22_12, e22_14, e22_5, e22_6, e22_37q, e22_38q, e22_39, e22_8q, e22_9q, trivial⟩
   refine tl_sw sv22 r7 (tyVa hD2.1 hD2.2 (.slice ao23 ks23.length cap23) rfl) HB8_22 (by first | rfl | simp [kcells, bv_length, zero32_len, hD2.1.1, hD2.2.1]) fun w25 g25 h25 => ?_
   replace HB2_2 := rw_st g25 HB2_2 (Ne.symm ne_B8_22_B2_2)
   replace HB5_5 := rw_st g25 HB5_5 (Ne.symm ne_B8_22_B5_5)
   replace HB6_5 := rw_st g25 HB6_5 (Ne.symm ne_B8_22_B6_5)
   replace HB9_22 := rw_st g25 HB9_22 ne_B9_22_B8_22
   replace hl := hl.offR g25 (no_b ap_hl_B8_22)
   replace hr5 := hr5.offR g25 (no_b ap_hr5_B8_22)
   replace hr6 := hr6.offR g25 (no_b ap_hr6_B8_22)
   replace hk23 := hk23.offR g25 (no_b ap_hk23_B8_22)
   replace hk24 := hk24.offR g25 (no_b ap_hk24_B8_22)
   replace HG := grown_newR HG g25 lo_B8_22
   replace HB8_22 := h25
   refine tl_sw sv22 r7 (tyVa hD2.1 hD2.2 (.slice ao24 ks24.length cap24) rfl) HB9_22 (by first | rfl | simp [kcells, bv_length, zero32_len, hD2.1.1, hD2.2.1]) fun w26 g26 h26 => ?_
   replace HB2_2 := rw_st g26 HB2_2 (Ne.symm ne_B9_22_B2_2)
   replace HB5_5 := rw_st g26 HB5_5 (Ne.symm ne_B9_22_B5_5)
   replace HB6_5 := rw_st g26 HB6_5 (Ne.symm ne_B9_22_B6_5)
   replace HB8_22 := rw_st g26 HB8_22 (Ne.symm ne_B9_22_B8_22)
   replace hl := hl.offR g26 (no_b ap_hl_B9_22)
   replace hr5 := hr5.offR g26 (no_b ap_hr5_B9_22)
   replace hr6 := hr6.offR g26 (no_b ap_hr6_B9_22)
   replace hk23 := hk23.offR g26 (no_b ap_hk23_B9_22)
   replace hk24 := hk24.offR g26 (no_b ap_hk24_B9_22)
   replace HG := grown_newR HG g26 lo_B9_22
   replace HB9_22 := h26
   refine tl_as (v := .bool true) sv22 r6 fun a27 sv27 => ?_
   refine tl_nil ?_
   refine k21 _ _ ?_
   refine wp_seq_k fun K28 k28 => ?_
   refine wp_seq_k fun K29 k29 => ?_
   refine wp_region_lit ?_
   refine sx_hv sv27 7 [(40, .bool true), (41, .bool false), (42, .bool false), (43, vval r.2.1 r.2.2 (.slice ao23 ks23.length cap23)), (44, .bool true), (45, .bool false), (46, .bool false)]
     ⟨ym r5, ox_un rfl rfl trivial (oy rfl rfl) (fun _ => rn_not) (fun _ => rfl), ym r5, ox_load rfl rfl (gy rfl rfl rfl) (oy rfl rfl) (fun _ g => loadsAt (tyVa hD2.1 hD2.2 (.slice ao23 ks23.length cap23) rfl) (rangeAt_row (row_of g HB8_22 (by simp)))) (fun _ => rfl), ox_call (Sp.is (.bool true)) [vval r.2.1 r.2.2 (.slice ao23 ks23.length cap23)] rfl rfl (gy rfl rfl rfl) ⟨(oy rfl rfl), trivial⟩ (is_on fun W g => vvalid_P hD2.1 hD2.2 (hk23.kn g) hp23 hG2.1) (fun _ _ h => h) (enter_of Try.func45 (by kernel_rfl) rfl), ox_un rfl rfl (gy rfl rfl rfl) (oy rfl rfl) (fun _ => rn_not) (fun _ => rfl), ox_pick rfl rfl trivial (oy rfl rfl) (oy rfl rfl) (fun _ => rfl), trivial⟩ fun a30 w30 g30 sv30 => ?_
   refine tl_nil ?_
   refine k29 _ _ ?_
   refine cx_ifF sv30 rfl rfl ?_
   refine wp_skip ?_
   refine k28 _ _ ?_
   replace HB2_2 := rw_kn g30 HB2_2
   replace HB5_5 := rw_kn g30 HB5_5
   replace HB6_5 := rw_kn g30 HB6_5
   replace HB8_22 := rw_kn g30 HB8_22
   replace HB9_22 := rw_kn g30 HB9_22
   replace hl := hl.kn g30
   replace hr5 := hr5.kn g30
   replace hr6 := hr6.kn g30
   replace hk23 := hk23.kn g30
   replace hk24 := hk24.kn g30
   replace HG := grown_trans HG g30
   have gd31 := grown_drew w30
   replace HB2_2 := rw_kn gd31 HB2_2
   replace HB5_5 := rw_kn gd31 HB5_5
   replace HB6_5 := rw_kn gd31 HB6_5
   replace HB8_22 := rw_kn gd31 HB8_22
   replace HB9_22 := rw_kn gd31 HB9_22
   replace hl := hl.kn gd31
   replace hr5 := hr5.kn gd31
   replace hr6 := hr6.kn gd31
   replace hk23 := hk23.kn gd31
   replace hk24 := hk24.kn gd31
   replace HG := grown_trans HG gd31
   refine wp_region_noPanic ?_
   refine region_script (fun w' => w'.heap[B8_22]? = some (.cells ([bv r.2.1, bv r.2.2, [.slice ao23 ks23.length cap23]].flatten).toArray 58 (0, 0)) ∧ w'.heap[B9_22]? = some (.cells ([bv r.2.1, bv r.2.2, [.slice ao24 ks24.length cap24]].flatten).toArray 58 (0, 0)) ∧ True) [0, 1] [2, 3] (by kernel_rfl) (by kernel_rfl) (fun _ _ d _ _ h => by cases d <;> exact h) rfl (by kernel_rfl) ⟨HB8_22, HB9_22, trivial⟩ ?_
   simp only [List.filterMap_cons, List.filterMap_nil, List.getElem?_toArray, List.getElem?_cons_succ, List.getElem?_cons_zero]
   refine tk_load sv30 rfl rfl rfl rfl ⟨rfl, rfl⟩ (fun w hS => loadsAt (tyVa hD2.1 hD2.2 (.slice ao23 ks23.length cap23) rfl) (rangeAt_row hS.1)) fun a32 sv32 => ?_
   refine tk_load sv32 rfl rfl rfl rfl ⟨rfl, rfl⟩ (fun w hS => loadsAt (tyVa hD2.1 hD2.2 (.slice ao24 ks24.length cap24) rfl) (rangeAt_row hS.2.1)) fun a33 sv33 => ?_
   change wpList _ _ _ _ _ _
   refine tl_sw sv33 r7 (tyVa hD2.1 hD2.2 (.slice ao23 ks23.length cap23) rfl) HB5_5 (by first | rfl | simp [kcells, bv_length, zero32_len, hD2.1.1, hD2.2.1, hsa.1, hpo.1]) fun w34 g34 h34 => ?_
   replace HB2_2 := rw_st g34 HB2_2 (Ne.symm ne_B5_5_B2_2)
   replace HB6_5 := rw_st g34 HB6_5 ne_B6_5_B5_5
   replace HB8_22 := rw_st g34 HB8_22 ne_B8_22_B5_5
   replace HB9_22 := rw_st g34 HB9_22 ne_B9_22_B5_5
   replace hl := hl.offR g34 (no_b ap_hl_B5_5)
   replace hr5 := hr5.offR g34 (no_b ap_hr5_B5_5)
   replace hr6 := hr6.offR g34 (no_b ap_hr6_B5_5)
   replace hk23 := hk23.offR g34 (no_b ap_hk23_B5_5)
   replace hk24 := hk24.offR g34 (no_b ap_hk24_B5_5)
   replace HG := grown_newR HG g34 lo_B5_5
   replace HB5_5 := h34
   refine tl_nil ⟨⟨HB8_22, HB9_22, trivial⟩, ?_⟩
   change wpList _ _ _ _ _ _
   refine tl_sw sv33 r7 (tyVa hD2.1 hD2.2 (.slice ao24 ks24.length cap24) rfl) HB6_5 (by first | rfl | simp [kcells, bv_length, zero32_len, hD2.1.1, hD2.2.1, hsa.1, hpo.1]) fun w35 g35 h35 => ?_
   replace HB2_2 := rw_st g35 HB2_2 (Ne.symm ne_B6_5_B2_2)
   replace HB5_5 := rw_st g35 HB5_5 (Ne.symm ne_B6_5_B5_5)
   replace HB8_22 := rw_st g35 HB8_22 ne_B8_22_B6_5
   replace HB9_22 := rw_st g35 HB9_22 ne_B9_22_B6_5
   replace hl := hl.offR g35 (no_b ap_hl_B6_5)
   replace hr5 := hr5.offR g35 (no_b ap_hr5_B6_5)
   replace hr6 := hr6.offR g35 (no_b ap_hr6_B6_5)
   replace hk23 := hk23.offR g35 (no_b ap_hk23_B6_5)
   replace hk24 := hk24.offR g35 (no_b ap_hk24_B6_5)
   replace HG := grown_newR HG g35 lo_B6_5
   replace HB6_5 := h35
   refine tl_nil ⟨⟨HB8_22, HB9_22, trivial⟩, ?_⟩
   refine NoPanic.normal ?_
   refine y20 _ _ ?_
   refine k19 _ _ ?_
   refine wp_region_lit ?_
   refine sx_hv sv33 2 [(27, .int .i64 ((i : Int))), (28, .int .i64 (((i + 1 : Nat) : Int)))]
     ⟨ym r5, ybc r6 (fun _ => rn_add (by rw [wrap_i64 (by omega) (by omega)]; omega)), trivial⟩ fun a36 w36 g36 sv36 => ?_
   refine tl_as (v := .int .i64 (((i + 1 : Nat) : Int))) sv36 r6 fun a37 sv37 => ?_
   refine tl_nil ?_
   replace HB2_2 := rw_kn g36 HB2_2
   replace HB5_5 := rw_kn g36 HB5_5
   replace HB6_5 := rw_kn g36 HB6_5
   replace HB8_22 := rw_kn g36 HB8_22
   replace HB9_22 := rw_kn g36 HB9_22
   replace hl := hl.kn g36
   replace hr5 := hr5.kn g36
   replace hr6 := hr6.kn g36
   replace hk23 := hk23.kn g36
   replace hk24 := hk24.kn g36
   replace HG := grown_trans HG g36
   exact ⟨⟨i + 1, r.1, r.2.1, r.2.2, ks23, ao23, cap23, ks24, ao24, cap24, by omega, by omega, hD2.1, hD2.2, hG2, hp23, hp24, ⟨sv37.1, sv37.2.1, sv37.2.2.1, sv37.2.2.2.2.2.2.2.2.2.2.2.2.2.2.2.2.2.2.2.2.2.2.2.1, sv37.2.2.2.2.2.2.2.2.2.2.2.2.2.2.2.2.2.2.2.2.2.2.2.2.1, sv37.2.2.2.2.2.2.2.2.2.2.2.2.2.2.2.2.2.2.2.2.2.2.2.2.2.1, sv37.2.2.2.2.2.2.2.2.2.2.2.2.2.2.2.2.2.2.2.2.2.2.2.2.2.2.1, sv37.2.2.2.2.2.2.2.2.2.2.2.2.2.2.2.2.2.2.2.2.2.2.2.2.2.2.2.1, sv37.2.2.2.2.2.2.2.2.2.2.2.2.2.2.2.2.2.2.2.2.2.2.2.2.2.2.2.2.1, sv37.2.2.2.2.2.2.2.2.2.2.2.2.2.2.2.2.2.2.2.2.2.2.2.2.2.2.2.2.2.1, sv37.2.2.2.2.2.2.2.2.2.2.2.2.2.2.2.2.2.2.2.2.2.2.2.2.2.2.2.2.2.2.1, sv37.2.2.2.2.2.2.2.2.2.2.2.2.2.2.2.2.2.2.2.2.2.2.2.2.2.2.2.2.2.2.2.1, sv37.2.2.2.2.2.2.2.2.2.2.2.2.2.2.2.2.2.2.2.2.2.2.2.2.2.2.2.2.2.2.2.2.1, sv37.2.2.2.2.2.2.2.2.2.2.2.2.2.2.2.2.2.2.2.2.2.2.2.2.2.2.2.2.2.2.2.2.2.1, trivial⟩, HG, HB2_2, HB5_5, HB6_5, hl, hk23, hk24, ap_hk23_B2_2, ap_hk23_B5_5, ap_hk23_B6_5, ap_hk24_B2_2, ap_hk24_B5_5, ap_hk24_B6_5⟩, by rw [show _ = _ from sv37.2.2.1, show _ = _ from sv15.2.2.1]; simp [intOf]; omega⟩
 · refine wp_region_lit ?_
   refine sx_hv sv15 8 [(19, .int .i64 ((i : Int))), (20, .slice ax l.length cax), (21, .int .i64 ((l.length : Nat))), (22, .bool true), (23, .bool true), (24, .int .i64 ((i : Int))), (25, .bool false), (26, .bool false)]
     ⟨ym r5, ym r5, ox_len (Try.underlying76) rfl rfl trivial (oy rfl rfl) (fun _ => rfl), ybt r7 (fun _ => rn_lss (decide_eq_true (by omega))), ym r5, ox_move 7 24 (.inl rfl) rfl rfl (gy rfl rfl rfl) (fun _ _ h => h), ox_bin rfl rfl (gy rfl rfl rfl) (oy rfl rfl) rfl (fun _ => rn_lss (decide_eq_false (by omega))) (fun _ => rfl), ox_pick rfl rfl trivial (oy rfl rfl) (oy rfl rfl) (fun _ => rfl), trivial⟩ fun a38 w38 g38 sv38 => ?_
   refine tl_nil ?_
   refine k17 _ _ ?_
   refine cx_ifF sv38 rfl rfl ?_
   refine wp_exit ?_
   repeat refine then_exit ?_
   refine x14 _ _ ?_
   refine k11 _ _ ?_
   refine wp_seq_k fun K39 k39 => ?_
   refine wp_region_lit ?_
   replace HB2_2 := rw_kn g38 HB2_2
   replace HB5_5 := rw_kn g38 HB5_5
   replace HB6_5 := rw_kn g38 HB6_5
   replace hl := hl.kn g38
   replace hr5 := hr5.kn g38
   replace hr6 := hr6.kn g38
   replace HG := grown_trans HG g38
   refine sx_hv sv38 1 [(49, .bool true)]
     ⟨ox_call (Sp.is (.bool true)) [] rfl rfl trivial trivial (is_on fun W g => awake_walk W) (fun _ _ h => h) (enter_of Try.func19 (by kernel_rfl) rfl), trivial⟩ fun a40 w40 g40 sv40 => ?_
   refine tl_as (v := .bool true) sv40 r6 fun a41 sv41 => ?_
   refine tl_nil ?_
   refine k39 _ _ ?_
   replace HB2_2 := rw_kn g40 HB2_2
   replace HB5_5 := rw_kn g40 HB5_5
   replace HB6_5 := rw_kn g40 HB6_5
   replace hl := hl.kn g40
   replace hr5 := hr5.kn g40
   replace hr6 := hr6.kn g40
   replace HG := grown_trans HG g40
   refine wp_ret ?_
   repeat refine then_ret ?_
   refine cx_ret (fn := Try.f15) sv41 (res_tmp (p := 4) Try.results15 sv41 rfl rfl) ?_
   exact ⟨rfl, HG⟩
 · refine wp_region_lit ?_
   refine sx_hv sv15 8 [(19, .int .i64 ((i : Int))), (20, .slice ax l.length cax), (21, .int .i64 ((l.length : Nat))), (22, .bool false), (23, .bool false), (24, undef), (25, undef), (26, .bool false)]
     ⟨ym r5, ym r5, ox_len (Try.underlying76) rfl rfl trivial (oy rfl rfl) (fun _ => rfl), ybt r7 (fun _ => rn_lss (decide_eq_false (by omega))), ym r5, ox_off (gn rfl rfl rfl) rfl (fun _ => rfl), ox_off (gn rfl rfl rfl) rfl (fun _ => rfl), ox_pick rfl rfl trivial (oy rfl rfl) rfl (fun _ => rfl), trivial⟩ fun a42 w42 g42 sv42 => ?_
   refine tl_nil ?_
   refine k17 _ _ ?_
   refine cx_ifF sv42 rfl rfl ?_
   refine wp_exit ?_
   repeat refine then_exit ?_
   refine x14 _ _ ?_
   refine k11 _ _ ?_
   refine wp_seq_k fun K43 k43 => ?_
   refine wp_region_lit ?_
   replace HB2_2 := rw_kn g42 HB2_2
   replace HB5_5 := rw_kn g42 HB5_5
   replace HB6_5 := rw_kn g42 HB6_5
   replace hl := hl.kn g42
   replace hr5 := hr5.kn g42
   replace hr6 := hr6.kn g42
   replace HG := grown_trans HG g42
   refine sx_hv sv42 1 [(49, .bool true)]
     ⟨ox_call (Sp.is (.bool true)) [] rfl rfl trivial trivial (is_on fun W g => awake_walk W) (fun _ _ h => h) (enter_of Try.func19 (by kernel_rfl) rfl), trivial⟩ fun a44 w44 g44 sv44 => ?_
   refine tl_as (v := .bool true) sv44 r6 fun a45 sv45 => ?_
   refine tl_nil ?_
   refine k43 _ _ ?_
   replace HB2_2 := rw_kn g44 HB2_2
   replace HB5_5 := rw_kn g44 HB5_5
   replace HB6_5 := rw_kn g44 HB6_5
   replace hl := hl.kn g44
   replace hr5 := hr5.kn g44
   replace hr6 := hr6.kn g44
   replace HG := grown_trans HG g44
   refine wp_ret ?_
   repeat refine then_ret ?_
   refine cx_ret (fn := Try.f15) sv45 (res_tmp (p := 4) Try.results15 sv45 rfl rfl) ?_
   exact ⟨rfl, HG⟩
theorem vaults_all (seed : List Nat) (hse : Dg seed) (l : List Ac) (s : Value) (w : World) (h : SlB w 3 s l.length (l.flatMap acells)) :
   Calls Try.prog 15 #[dval seed, s] w fun e w' => e = .returned (.bool true) ∧ w.grownBy w' none := by
 obtain ⟨ax, cax, rfl, _⟩ := h.1.shape
 exact vaults_walk seed hse l ax cax w h
end Go.Proofs.Yteakoleceoclkaa
