/- Key trees: the law KeytreeOwners. (printed by gen_l16.py) -/
import Derived.Test.YteakoleceoclkaaVE
namespace Go.Proofs.Yteakoleceoclkaa
open Go.RowKit Go.Shelf
set_option linter.unusedSimpArgs false
set_option linter.unusedVariables false
set_option maxRecDepth 100000 in
set_option maxHeartbeats 4000000 in
theorem owners_walk (seed : List Nat) (hse : Dg seed) (xa xb : Int) (w : World) :
    Calls Try.prog 16 #[dval seed, .int .i64 xa, .int .i64 xb] w fun e w' => e = .returned (.bool true) ∧ w.grownBy w' none := by
  obtain ⟨sa, hsaE⟩ : ∃ x, kd 273 seed = x := ⟨_, rfl⟩
  have hsa : Dg sa := hsaE ▸ kd_dg _ _
  obtain ⟨T, hT⟩ : ∃ T : Nat → List Nd, ∀ j, tree (kd 275 (pj seed j)) [] = T j := ⟨_, fun _ => rfl⟩
  have hTv : ∀ j, vld (T j) = true := fun j => hT j ▸ tree_new_vld _
  obtain ⟨A, hA⟩ : ∃ A, adr xa = A := ⟨_, rfl⟩
  obtain ⟨B, hB⟩ : ∃ B, adr xb = B := ⟨_, rfl⟩
  have hAa : isAddr A = true := hA ▸ adr_isAddr _
  have hBa : isAddr B = true := hB ▸ adr_isAddr _
  obtain ⟨t1, ht1⟩ : ∃ t, tree (kd 275 (pj seed 1)) [A] = t := ⟨_, rfl⟩
  have ht1v : vld t1 = true := ht1 ▸ tree_vld_of _ _ (by simp)
  refine cx_enter Try.func16 rfl Try.ntmps16 rfl fun a0 sv0 => ?_
  have HG := World.grownBy.refl w none
  replace sv0 : Sv 148 [] [(0, dval seed), (1, .int .i64 xa), (2, .int .i64 xb)] a0 := sv0
  refine wp_seq_k fun K1 k1 => ?_
  refine wp_region_lit ?_
  refine tl_box sv0 rfl rfl rfl rfl rfl rfl (tyD seed hse.1) fun a2 w2 B3_2 eq_B3_2 g2 z2 HB3_2 sv2 => ?_
  have lo_B3_2 := nb_lo HG eq_B3_2
  replace HG := grown_trans HG g2
  replace sv2 : Sv 148 [] [(3, .pointer (some ⟨B3_2, 0, none⟩)), (0, dval seed), (1, .int .i64 xa), (2, .int .i64 xb)] a2 := sv2
  refine tl_assign sv2 rfl (.inl rfl) rfl rfl rfl rfl fun a3 sv3 => ?_
  replace sv3 : Sv 148 [] [(6, .bool false), (3, .pointer (some ⟨B3_2, 0, none⟩)), (0, dval seed), (1, .int .i64 xa), (2, .int .i64 xb)] a3 := sv3
  have sv4 : Sv 148 [] [(6, .bool false), (3, .pointer (some ⟨B3_2, 0, none⟩)), (1, .int .i64 xa), (2, .int .i64 xb)] a3 := ⟨sv3.1, sv3.2.1, sv3.2.2.1, sv3.2.2.2.1, sv3.2.2.2.2.2.1, sv3.2.2.2.2.2.2.1, trivial⟩
  refine tl_nil ?_
  refine k1 _ _ ?_
  refine wp_seq_k fun K5 k5 => ?_
  refine wp_region_lit ?_
  refine sx_head (sv4.st w2) 2 [(28, Sp.is (dval seed)), (29, Sp.is (vval sa ((pj seed 0)) (.slice none 0 0)))] rfl (by kernel_rfl) (by kernel_rfl) (by kernel_rfl)
    ⟨xl rfl rfl rfl rfl rfl (tyD seed hse.1) HB3_2 rfl, ox_call (Sp.is (vval sa ((pj seed 0)) (.slice none 0 0))) [dval seed] rfl rfl trivial ⟨(oy rfl rfl), trivial⟩ (is_on fun W g => by rw [← hsaE]; exact newv_walk seed hse W) (fun _ _ h => h) (enter_of Try.func35 (by kernel_rfl) rfl), trivial⟩ fun a6 w6 g6 st6 => ?_
  obtain ⟨hn6, hd6, e6_28, e6_29, e6_6, e6_3, e6_1, e6_2, -⟩ := st6
  replace HB3_2 := rw_kn g6 HB3_2
  replace HG := grown_trans HG g6
  have sv6 : Sv 148 [] [(6, .bool false), (3, .pointer (some ⟨B3_2, 0, none⟩)), (1, .int .i64 xa), (2, .int .i64 xb), (29, vval sa ((pj seed 0)) (.slice none 0 0))] a6 := ⟨hn6, hd6, e6_6, e6_3, e6_1, e6_2, e6_29, trivial⟩
  refine tl_alloc (T := 58) (Z := ([bv zero32, bv zero32, [.slice none 0 0]].flatten)) sv6 rfl rfl rfl (fun a w => by kernel_rfl) fun a7 w7 B7_7 eq_B7_7 g7 z7 HB7_7 sv7 => ?_
  have ne_B7_7_B3_2 := nb_ne HB3_2 eq_B7_7
  have lo_B7_7 := nb_lo HG eq_B7_7
  replace HB3_2 := rw_kn g7 HB3_2
  replace HG := grown_trans HG g7
  replace sv7 : Sv 148 [] [(7, .pointer (some ⟨B7_7, 0, none⟩)), (6, .bool false), (3, .pointer (some ⟨B3_2, 0, none⟩)), (1, .int .i64 xa), (2, .int .i64 xb), (29, vval sa ((pj seed 0)) (.slice none 0 0))] a7 := sv7
  refine tl_storeW sv7 rfl rfl rfl rfl rfl rfl rfl (tyVa hsa (pj_dg seed 0) (.slice none 0 0) rfl) HB7_7 (by first | rfl | simp [kcells, bv_length, zero32_len, hsa.1, (pj_dg seed 0).1]) fun w8 g8 h8 => ?_
  replace HB3_2 := rw_st g8 HB3_2 (Ne.symm ne_B7_7_B3_2)
  replace HG := grown_newR HG g8 lo_B7_7
  replace HB7_7 := h8
  have sv9 : Sv 148 [] [(7, .pointer (some ⟨B7_7, 0, none⟩)), (6, .bool false), (1, .int .i64 xa), (2, .int .i64 xb)] a7 := ⟨sv7.1, sv7.2.1, sv7.2.2.1, sv7.2.2.2.1, sv7.2.2.2.2.2.1, sv7.2.2.2.2.2.2.1, trivial⟩
  refine tl_nil ?_
  refine k5 _ _ ?_
  refine wp_seq_k fun K10 k10 => ?_
  refine wp_seq_k fun K11 k11 => ?_
  refine wp_region_lit ?_
  refine tl_assign sv9 rfl (.inl rfl) rfl rfl rfl rfl fun a12 sv12 => ?_
  replace sv12 : Sv 148 [] [(8, .int .i64 0), (7, .pointer (some ⟨B7_7, 0, none⟩)), (6, .bool false), (1, .int .i64 xa), (2, .int .i64 xb)] a12 := sv12
  refine tl_nil ?_
  refine k11 _ _ ?_
  refine cx_block fun Q13 x13 y13 r13 o13 => ?_
  have hr := RdK.nil w8
  have ap_hr_B3_2 : ∀ k, fpK (.slice none 0 0) [] k → k ≠ B3_2 := fun k hk => (fpK_nil k hk).elim
  have ap_hr_B7_7 : ∀ k, fpK (.slice none 0 0) [] k → k ≠ B7_7 := fun k hk => (fpK_nil k hk).elim
  refine wp_loop (fun a w' => ∃ (i : Nat) (ks : List VK) (ao : Option Addr) (cap : Nat), (i ≤ 3) ∧ (OInv T (ks.map VK.p) i) ∧ Sv 148 [] [(8, .int .i64 ((i : Int))), (7, .pointer (some ⟨B7_7, 0, none⟩)), (1, .int .i64 xa), (2, .int .i64 xb)] a ∧ w.grownBy w' none ∧ w'.heap[B3_2]? = some (.cells (bv seed).toArray 29 (0, 0)) ∧ w'.heap[B7_7]? = some (.cells ([bv sa, bv ((pj seed i)), [.slice ao ks.length cap]].flatten).toArray 58 (0, 0)) ∧ RdK w' (.slice ao ks.length cap) ks ∧ (∀ k, fpK (.slice ao ks.length cap) ks k → k ≠ B3_2) ∧ (∀ k, fpK (.slice ao ks.length cap) ks k → k ≠ B7_7)) (fun a _ => (3 - intOf (a.tmps.getD 8 undef)).toNat) ⟨0, [], none, 0, by omega, OInv.zero T, ⟨sv12.1, sv12.2.1, sv12.2.2.1, sv12.2.2.2.1, sv12.2.2.2.2.2.1, sv12.2.2.2.2.2.2.1, trivial⟩, HG, HB3_2, HB7_7, hr, ap_hr_B3_2, ap_hr_B7_7⟩ fun a14 w14 hI14 => ?_
  clear HB3_2
  clear HB7_7
  clear hr
  clear HG
  obtain ⟨i, ks, ao, cap, hi3, hO, sv14, HG, HB3_2, HB7_7, hr, ap_hr_B3_2, ap_hr_B7_7⟩ := hI14
  refine wp_seq_k fun K15 k15 => ?_
  refine wp_seq_k fun K16 k16 => ?_
  by_cases hi : i < 3
  · have hn := hO.not hi
    have hlen := hO.2.1
    refine wp_region_lit ?_
    refine sx_head (sv14.st w14) 2 [(30, Sp.is (.int .i64 ((i : Int)))), (31, Sp.is (.bool true))] rfl (by kernel_rfl) (by kernel_rfl) (by kernel_rfl)
      ⟨xm rfl rfl rfl rfl rfl, ox_bin rfl rfl trivial (oy rfl rfl) rfl (fun _ => rn_lss (decide_eq_true (by omega))) (fun _ => rfl), trivial⟩ fun a17 w17 g17 st17 => ?_
    obtain ⟨hn17, hd17, e17_30, e17_31, e17_8, e17_7, e17_1, e17_2, -⟩ := st17
    replace HB3_2 := rw_kn g17 HB3_2
    replace HB7_7 := rw_kn g17 HB7_7
    replace hr := hr.kn g17
    replace HG := grown_trans HG g17
    have sv17 : Sv 148 [] [(8, .int .i64 ((i : Int))), (7, .pointer (some ⟨B7_7, 0, none⟩)), (1, .int .i64 xa), (2, .int .i64 xb), (31, .bool true)] a17 := ⟨hn17, hd17, e17_8, e17_7, e17_1, e17_2, e17_31, trivial⟩
    refine tl_nil ?_
    refine k16 _ _ ?_
    refine cx_ifT sv17 rfl rfl ?_
    refine wp_skip ?_
    refine k15 _ _ ?_
    refine wp_seq_k fun K18 k18 => ?_
    refine cx_block fun Q19 x19 y19 r19 o19 => ?_
    refine wp_seq_k fun K20 k20 => ?_
    refine rx_tail (sv17.st w17) (by kernel_rfl) 8 [(35, Sp.is (vval sa ((pj seed i)) (.slice ao ks.length cap))), (36, Sp.is (.int .i64 ((i : Int)))), (37, Sp.is (dval ((ow i)))), (38, Sp.vt ((insV (ks.map VK.p) (ow i) (T i), sa, (pj seed (i + 1))), (0 : Int)) ((fun _ => False))), (34, Sp.vt ((insV (ks.map VK.p) (ow i) (T i), sa, (pj seed (i + 1))), (0 : Int)) ((fun _ => False))), (39, Sp.vv (insV (ks.map VK.p) (ow i) (T i), sa, (pj seed (i + 1))) ((fun _ => False))), (40, Sp.is (.int .i64 0)), (9, Sp.new w17.heap.size (([bv zero32, bv zero32, [.slice none 0 0]].flatten)) 58)] rfl (by kernel_rfl) (by kernel_rfl) (by kernel_rfl) [6] (by kernel_rfl)
      ⟨xl rfl rfl rfl rfl rfl (tyVa hsa (pj_dg seed i) (.slice ao ks.length cap) rfl) HB7_7 rfl, xm rfl rfl rfl rfl rfl, ox_call (Sp.is (dval ((ow i)))) [.int .i64 ((i : Int))] rfl rfl trivial ⟨(oy rfl rfl), trivial⟩ (is_on fun W g => owner_c (j := i) rfl W) (fun _ _ h => h) (enter_of Try.func51 (by kernel_rfl) rfl), ox_call (Sp.vt ((insV (ks.map VK.p) (ow i) (T i), sa, (pj seed (i + 1))), (0 : Int)) ((fun _ => False))) [vval sa ((pj seed i)) (.slice ao ks.length cap), dval ((ow i))] rfl rfl trivial ⟨(oy rfl rfl), (oy rfl rfl), trivial⟩ (ens_on hsa (pj_dg seed i) (ow_dg i) hr rfl (hT i) (ensO_new hO.1 hn (by omega))) (fun _ _ h => h) (enter_of Try.func36 (by kernel_rfl) rfl), xm rfl rfl rfl rfl rfl, ox_extract rfl rfl rfl trivial (fun w u h => vt_vault w u h), ox_extract rfl rfl rfl trivial (fun w u h => vt_err w u h), ox_alloc rfl trivial (Nat.le_refl _) (fun a w => by kernel_rfl) (fun _ _ h => h), trivial⟩ ⟨fun o ho => by obtain rfl := Option.some.inj ho; exact px_extract rfl rfl rfl trivial (fun w u h => vt_err w u h), trivial⟩
      [9] (by kernel_rfl) ⟨Sp.new_lt, trivial⟩ ⟨.inl rfl, .inl rfl, .inl rfl, .inl rfl, .inl rfl, .inl rfl, .inl rfl, .inr ⟨rfl, (([bv zero32, bv zero32, [.slice none 0 0]].flatten)).toArray, 58, fun a w => by kernel_rfl⟩, trivial⟩ (by kernel_rfl) fun a21 w21 g21 st21 nd21 => ?_
    obtain ⟨hn21, hd21, e21_35, e21_36, e21_37, e21_38, e21_34, e21_39, e21_40, e21_9, e21_8, e21_7, e21_1, e21_2, e21_31, -⟩ := st21
    obtain ⟨ao22, cap22, ks22, e21_39q, hp22, hk22, hf22⟩ := e21_39
    obtain ⟨B9_21, e21_9q, ge_B9_21, HB9_21⟩ := e21_9
    have ne_B9_21_B3_2 := nh_ne HB3_2 ge_B9_21
    have ne_B9_21_B7_7 := nh_ne HB7_7 ge_B9_21
    have lo_B9_21 := nh_lo HG ge_B9_21
    have ap_hr_B9_21 := nh_ap (hr.lt) ge_B9_21
    replace HB3_2 := rw_kn g21 HB3_2
    replace HB7_7 := rw_kn g21 HB7_7
    replace hr := hr.kn g21
    replace HG := grown_trans HG g21
    have ap_hk22_B3_2 : ∀ k, fpK (.slice ao22 ks22.length cap22) ks22 k → k ≠ B3_2 := fun k hk => (hf22 k hk).elim (fun h => h.elim) (fun t => tagv_ne t HB3_2 (by decide))
    have ap_hk22_B7_7 : ∀ k, fpK (.slice ao22 ks22.length cap22) ks22 k → k ≠ B7_7 := fun k hk => (hf22 k hk).elim (fun h => h.elim) (fun t => tagv_ne t HB7_7 (by decide))
    have ap_hk22_B9_21 : ∀ k, fpK (.slice ao22 ks22.length cap22) ks22 k → k ≠ B9_21 := fun k hk => (hf22 k hk).elim (fun h => h.elim) (fun t => tagv_ne t HB9_21 (by decide))
    have sv21 : Sv 148 [] [(8, .int .i64 ((i : Int))), (7, .pointer (some ⟨B7_7, 0, none⟩)), (1, .int .i64 xa), (2, .int .i64 xb), (31, .bool true), (39, vval sa ((pj seed (i + 1))) (.slice ao22 ks22.length cap22)), (40, .int .i64 0), (9, .pointer (some ⟨B9_21, 0, none⟩))] a21 := ⟨hn21, hd21, e21_8, e21_7, e21_1, e21_2, e21_31, e21_39q, e21_40, e21_9q, trivial⟩
    refine tl_storeW sv21 rfl rfl rfl rfl rfl rfl rfl (tyVa hsa (pj_dg seed (i + 1)) (.slice ao22 ks22.length cap22) rfl) HB9_21 (by first | rfl | simp [kcells, bv_length, zero32_len, hsa.1, (pj_dg seed (i + 1)).1]) fun w23 g23 h23 => ?_
    replace HB3_2 := rw_st g23 HB3_2 (Ne.symm ne_B9_21_B3_2)
    replace HB7_7 := rw_st g23 HB7_7 (Ne.symm ne_B9_21_B7_7)
    replace hr := hr.offR g23 (fun k hk e => ap_hr_B9_21 k hk (Option.some.inj e).symm)
    replace hk22 := hk22.offR g23 (fun k hk e => ap_hk22_B9_21 k hk (Option.some.inj e).symm)
    replace HG := grown_newR HG g23 lo_B9_21
    replace HB9_21 := h23
    refine tl_assign sv21 rfl (.inl rfl) rfl rfl rfl rfl fun a24 sv24 => ?_
    replace sv24 : Sv 148 [] [(10, .int .i64 0), (8, .int .i64 ((i : Int))), (7, .pointer (some ⟨B7_7, 0, none⟩)), (1, .int .i64 xa), (2, .int .i64 xb), (31, .bool true), (39, vval sa ((pj seed (i + 1))) (.slice ao22 ks22.length cap22)), (40, .int .i64 0), (9, .pointer (some ⟨B9_21, 0, none⟩))] a24 := sv24
    have sv25 : Sv 148 [] [(10, .int .i64 0), (8, .int .i64 ((i : Int))), (7, .pointer (some ⟨B7_7, 0, none⟩)), (1, .int .i64 xa), (2, .int .i64 xb), (31, .bool true), (9, .pointer (some ⟨B9_21, 0, none⟩))] a24 := ⟨sv24.1, sv24.2.1, sv24.2.2.1, sv24.2.2.2.1, sv24.2.2.2.2.1, sv24.2.2.2.2.2.1, sv24.2.2.2.2.2.2.1, sv24.2.2.2.2.2.2.2.1, sv24.2.2.2.2.2.2.2.2.2.2.1, trivial⟩
    refine tl_nil ?_
    refine k20 _ _ ?_
    refine wp_seq_k fun K26 k26 => ?_
    refine wp_seq_k fun K27 k27 => ?_
    refine wp_region_lit ?_
    refine sx_head (sv25.st w23) 2 [(41, Sp.is (.int .i64 0)), (42, Sp.is (.bool false))] rfl (by kernel_rfl) (by kernel_rfl) (by kernel_rfl)
      ⟨xm rfl rfl rfl rfl rfl, ox_bin rfl rfl trivial (oy rfl rfl) rfl (fun _ => rn_neq rfl) (fun _ => rfl), trivial⟩ fun a28 w28 g28 st28 => ?_
    obtain ⟨hn28, hd28, e28_41, e28_42, e28_10, e28_8, e28_7, e28_1, e28_2, e28_31, e28_9, -⟩ := st28
    replace HB3_2 := rw_kn g28 HB3_2
    replace HB7_7 := rw_kn g28 HB7_7
    replace HB9_21 := rw_kn g28 HB9_21
    replace hr := hr.kn g28
    replace hk22 := hk22.kn g28
    replace HG := grown_trans HG g28
    have sv28 : Sv 148 [] [(10, .int .i64 0), (8, .int .i64 ((i : Int))), (7, .pointer (some ⟨B7_7, 0, none⟩)), (1, .int .i64 xa), (2, .int .i64 xb), (31, .bool true), (9, .pointer (some ⟨B9_21, 0, none⟩)), (42, .bool false)] a28 := ⟨hn28, hd28, e28_10, e28_8, e28_7, e28_1, e28_2, e28_31, e28_9, e28_42, trivial⟩
    refine tl_nil ?_
    refine k27 _ _ ?_
    refine cx_ifF sv28 rfl rfl ?_
    refine wp_skip ?_
    refine k26 _ _ ?_
    refine wp_region_lit ?_
    refine sx_head (sv28.st w28) 1 [(43, Sp.is (vval sa ((pj seed (i + 1))) (.slice ao22 ks22.length cap22)))] rfl (by kernel_rfl) (by kernel_rfl) (by kernel_rfl)
      ⟨xl rfl rfl rfl rfl rfl (tyVa hsa (pj_dg seed (i + 1)) (.slice ao22 ks22.length cap22) rfl) HB9_21 rfl, trivial⟩ fun a29 w29 g29 st29 => ?_
    obtain ⟨hn29, hd29, e29_43, e29_10, e29_8, e29_7, e29_1, e29_2, e29_31, e29_9, e29_42, -⟩ := st29
    replace HB3_2 := rw_kn g29 HB3_2
    replace HB7_7 := rw_kn g29 HB7_7
    replace HB9_21 := rw_kn g29 HB9_21
    replace hr := hr.kn g29
    replace hk22 := hk22.kn g29
    replace HG := grown_trans HG g29
    have sv29 : Sv 148 [] [(10, .int .i64 0), (8, .int .i64 ((i : Int))), (7, .pointer (some ⟨B7_7, 0, none⟩)), (1, .int .i64 xa), (2, .int .i64 xb), (31, .bool true), (9, .pointer (some ⟨B9_21, 0, none⟩)), (42, .bool false), (43, vval sa ((pj seed (i + 1))) (.slice ao22 ks22.length cap22))] a29 := ⟨hn29, hd29, e29_10, e29_8, e29_7, e29_1, e29_2, e29_31, e29_9, e29_42, e29_43, trivial⟩
    refine tl_storeW sv29 rfl rfl rfl rfl rfl rfl rfl (tyVa hsa (pj_dg seed (i + 1)) (.slice ao22 ks22.length cap22) rfl) HB7_7 (by first | rfl | simp [kcells, bv_length, zero32_len, hsa.1, (pj_dg seed (i + 1)).1, hsa.1, (pj_dg seed i).1]) fun w30 g30 h30 => ?_
    replace HB3_2 := rw_st g30 HB3_2 (Ne.symm ne_B7_7_B3_2)
    replace HB9_21 := rw_st g30 HB9_21 ne_B9_21_B7_7
    replace hr := hr.offR g30 (fun k hk e => ap_hr_B7_7 k hk (Option.some.inj e).symm)
    replace hk22 := hk22.offR g30 (fun k hk e => ap_hk22_B7_7 k hk (Option.some.inj e).symm)
    replace HG := grown_newR HG g30 lo_B7_7
    replace HB7_7 := h30
    have sv31 : Sv 148 [] [(10, .int .i64 0), (8, .int .i64 ((i : Int))), (7, .pointer (some ⟨B7_7, 0, none⟩)), (1, .int .i64 xa), (2, .int .i64 xb), (31, .bool true), (9, .pointer (some ⟨B9_21, 0, none⟩)), (42, .bool false)] a29 := ⟨sv29.1, sv29.2.1, sv29.2.2.1, sv29.2.2.2.1, sv29.2.2.2.2.1, sv29.2.2.2.2.2.1, sv29.2.2.2.2.2.2.1, sv29.2.2.2.2.2.2.2.1, sv29.2.2.2.2.2.2.2.2.1, sv29.2.2.2.2.2.2.2.2.2.1, trivial⟩
    refine tl_nil ?_
    refine y19 _ _ ?_
    refine k18 _ _ ?_
    refine wp_region_lit ?_
    refine sx_head (sv31.st w30) 2 [(32, Sp.is (.int .i64 ((i : Int)))), (33, Sp.is (.int .i64 (((i + 1 : Nat) : Int))))] rfl (by kernel_rfl) (by kernel_rfl) (by kernel_rfl)
      ⟨xm rfl rfl rfl rfl rfl, ox_bin rfl rfl trivial (oy rfl rfl) rfl (fun _ => rn_add (by rw [wrap_i64 (by omega) (by omega)]; omega)) (fun _ => rfl), trivial⟩ fun a32 w32 g32 st32 => ?_
    obtain ⟨hn32, hd32, e32_32, e32_33, e32_10, e32_8, e32_7, e32_1, e32_2, e32_31, e32_9, e32_42, -⟩ := st32
    replace HB3_2 := rw_kn g32 HB3_2
    replace HB7_7 := rw_kn g32 HB7_7
    replace HB9_21 := rw_kn g32 HB9_21
    replace hr := hr.kn g32
    replace hk22 := hk22.kn g32
    replace HG := grown_trans HG g32
    have sv32 : Sv 148 [] [(10, .int .i64 0), (8, .int .i64 ((i : Int))), (7, .pointer (some ⟨B7_7, 0, none⟩)), (1, .int .i64 xa), (2, .int .i64 xb), (31, .bool true), (9, .pointer (some ⟨B9_21, 0, none⟩)), (42, .bool false), (33, .int .i64 (((i + 1 : Nat) : Int)))] a32 := ⟨hn32, hd32, e32_10, e32_8, e32_7, e32_1, e32_2, e32_31, e32_9, e32_42, e32_33, trivial⟩
    refine tl_assign sv32 rfl (.inl rfl) rfl rfl rfl rfl fun a33 sv33 => ?_
    replace sv33 : Sv 148 [] [(8, .int .i64 (((i + 1 : Nat) : Int))), (10, .int .i64 0), (7, .pointer (some ⟨B7_7, 0, none⟩)), (1, .int .i64 xa), (2, .int .i64 xb), (31, .bool true), (9, .pointer (some ⟨B9_21, 0, none⟩)), (42, .bool false), (33, .int .i64 (((i + 1 : Nat) : Int)))] a33 := sv33
    have sv34 : Sv 148 [] [(8, .int .i64 (((i + 1 : Nat) : Int))), (10, .int .i64 0), (7, .pointer (some ⟨B7_7, 0, none⟩)), (1, .int .i64 xa), (2, .int .i64 xb), (31, .bool true), (9, .pointer (some ⟨B9_21, 0, none⟩)), (42, .bool false)] a33 := ⟨sv33.1, sv33.2.1, sv33.2.2.1, sv33.2.2.2.1, sv33.2.2.2.2.1, sv33.2.2.2.2.2.1, sv33.2.2.2.2.2.2.1, sv33.2.2.2.2.2.2.2.1, sv33.2.2.2.2.2.2.2.2.1, sv33.2.2.2.2.2.2.2.2.2.1, trivial⟩
    refine tl_nil ?_
    exact ⟨⟨i + 1, ks22, ao22, cap22, by omega, by rw [hp22]; exact hO.succ (by omega) hTv, ⟨sv34.1, sv34.2.1, sv34.2.2.1, sv34.2.2.2.2.1, sv34.2.2.2.2.2.1, sv34.2.2.2.2.2.2.1, trivial⟩, HG, HB3_2, HB7_7, hk22, ap_hk22_B3_2, ap_hk22_B7_7⟩, by rw [show _ = _ from sv34.2.2.1, show _ = _ from sv14.2.2.1]; simp [intOf]; omega⟩
  · obtain rfl : i = 3 := by omega
    obtain ⟨P, hP⟩ : ∃ P, ks.map VK.p = P := ⟨_, rfl⟩
    rw [hP] at hO
    have hAf := hO.after T t1 ht1v
    have hS := hAf.1
    have hD := hAf.2
    refine wp_region_lit ?_
    refine sx_head (sv14.st w14) 2 [(30, Sp.is (.int .i64 (((3 : Nat) : Int)))), (31, Sp.is (.bool false))] rfl (by kernel_rfl) (by kernel_rfl) (by kernel_rfl)
      ⟨xm rfl rfl rfl rfl rfl, ox_bin rfl rfl trivial (oy rfl rfl) rfl (fun _ => rn_lss (by simp)) (fun _ => rfl), trivial⟩ fun a35 w35 g35 st35 => ?_
    obtain ⟨hn35, hd35, e35_30, e35_31, e35_8, e35_7, e35_1, e35_2, -⟩ := st35
    replace HB3_2 := rw_kn g35 HB3_2
    replace HB7_7 := rw_kn g35 HB7_7
    replace hr := hr.kn g35
    replace HG := grown_trans HG g35
    have sv35 : Sv 148 [] [(8, .int .i64 (((3 : Nat) : Int))), (7, .pointer (some ⟨B7_7, 0, none⟩)), (1, .int .i64 xa), (2, .int .i64 xb), (31, .bool false)] a35 := ⟨hn35, hd35, e35_8, e35_7, e35_1, e35_2, e35_31, trivial⟩
    refine tl_nil ?_
    refine k16 _ _ ?_
    refine cx_ifF sv35 rfl rfl ?_
    refine wp_exit ?_
    repeat refine then_exit ?_
    refine x13 _ _ ?_
    refine k10 _ _ ?_
    refine wp_seq_k fun K36 k36 => ?_
    refine rx_tail (sv35.st w35) (by kernel_rfl) 9 [(45, Sp.is (vval sa ((pj seed 3)) (.slice ao ks.length cap))), (46, Sp.is (dval ((ow 1)))), (47, Sp.is (.int .i64 xa)), (48, Sp.is (.int .i64 A)), (49, Sp.vt ((setV P (ow 1) t1, sa, (pj seed 3)), (0 : Int)) ((fun _ => False))), (44, Sp.vt ((setV P (ow 1) t1, sa, (pj seed 3)), (0 : Int)) ((fun _ => False))), (50, Sp.vv (setV P (ow 1) t1, sa, (pj seed 3)) ((fun _ => False))), (51, Sp.is (.int .i64 0)), (11, Sp.new w35.heap.size (([bv zero32, bv zero32, [.slice none 0 0]].flatten)) 58)] rfl (by kernel_rfl) (by kernel_rfl) (by kernel_rfl) [7] (by kernel_rfl)
      ⟨xl rfl rfl rfl rfl rfl (tyVa hsa (pj_dg seed 3) (.slice ao ks.length cap) rfl) HB7_7 rfl, ox_call (Sp.is (dval ((ow 1)))) [.int .i64 1] rfl rfl trivial ⟨rfl, trivial⟩ (is_on fun W g => owner_c (j := 1) rfl W) (fun _ _ h => h) (enter_of Try.func51 (by kernel_rfl) rfl), xm rfl rfl rfl rfl rfl, ox_call (Sp.is (.int .i64 A)) [.int .i64 xa] rfl rfl trivial ⟨(oy rfl rfl), trivial⟩ (is_on fun W g => hA ▸ adr_c _ W) (fun _ _ h => h) (enter_of Try.func30 (by kernel_rfl) rfl), ox_call (Sp.vt ((setV P (ow 1) t1, sa, (pj seed 3)), (0 : Int)) ((fun _ => False))) [vval sa ((pj seed 3)) (.slice ao ks.length cap), dval ((ow 1)), .int .i64 A] rfl rfl trivial ⟨(oy rfl rfl), (oy rfl rfl), (oy rfl rfl), trivial⟩ (shr_on hsa (pj_dg seed 3) (ow_dg 1) hr hP (shrO_one hAa hO.1 (hO.tr (j := 1) (by omega)) (hT 1) ht1)) (fun _ _ h => h) (enter_of Try.func42 (by kernel_rfl) rfl), xm rfl rfl rfl rfl rfl, ox_extract rfl rfl rfl trivial (fun w u h => vt_vault w u h), ox_extract rfl rfl rfl trivial (fun w u h => vt_err w u h), ox_alloc rfl trivial (Nat.le_refl _) (fun a w => by kernel_rfl) (fun _ _ h => h), trivial⟩ ⟨fun o ho => by obtain rfl := Option.some.inj ho; exact px_extract rfl rfl rfl trivial (fun w u h => vt_err w u h), trivial⟩
      [11] (by kernel_rfl) ⟨Sp.new_lt, trivial⟩ ⟨.inl rfl, .inl rfl, .inl rfl, .inl rfl, .inl rfl, .inl rfl, .inl rfl, .inl rfl, .inr ⟨rfl, (([bv zero32, bv zero32, [.slice none 0 0]].flatten)).toArray, 58, fun a w => by kernel_rfl⟩, trivial⟩ (by kernel_rfl) fun a37 w37 g37 st37 nd37 => ?_
    obtain ⟨hn37, hd37, e37_45, e37_46, e37_47, e37_48, e37_49, e37_44, e37_50, e37_51, e37_11, e37_8, e37_7, e37_1, e37_2, e37_31, -⟩ := st37
    obtain ⟨ao38, cap38, ks38, e37_50q, hp38, hk38, hf38⟩ := e37_50
    obtain ⟨B11_37, e37_11q, ge_B11_37, HB11_37⟩ := e37_11
    have ne_B11_37_B3_2 := nh_ne HB3_2 ge_B11_37
    have ne_B11_37_B7_7 := nh_ne HB7_7 ge_B11_37
    have lo_B11_37 := nh_lo HG ge_B11_37
    have ap_hr_B11_37 := nh_ap (hr.lt) ge_B11_37
    replace HB3_2 := rw_kn g37 HB3_2
    replace HB7_7 := rw_kn g37 HB7_7
    replace hr := hr.kn g37
    replace HG := grown_trans HG g37
    have ap_hk38_B3_2 : ∀ k, fpK (.slice ao38 ks38.length cap38) ks38 k → k ≠ B3_2 := fun k hk => (hf38 k hk).elim (fun h => h.elim) (fun t => tagv_ne t HB3_2 (by decide))
    have ap_hk38_B7_7 : ∀ k, fpK (.slice ao38 ks38.length cap38) ks38 k → k ≠ B7_7 := fun k hk => (hf38 k hk).elim (fun h => h.elim) (fun t => tagv_ne t HB7_7 (by decide))
    have ap_hk38_B11_37 : ∀ k, fpK (.slice ao38 ks38.length cap38) ks38 k → k ≠ B11_37 := fun k hk => (hf38 k hk).elim (fun h => h.elim) (fun t => tagv_ne t HB11_37 (by decide))
    have sv37 : Sv 148 [] [(8, .int .i64 (((3 : Nat) : Int))), (7, .pointer (some ⟨B7_7, 0, none⟩)), (1, .int .i64 xa), (2, .int .i64 xb), (31, .bool false), (50, vval sa ((pj seed 3)) (.slice ao38 ks38.length cap38)), (51, .int .i64 0), (11, .pointer (some ⟨B11_37, 0, none⟩))] a37 := ⟨hn37, hd37, e37_8, e37_7, e37_1, e37_2, e37_31, e37_50q, e37_51, e37_11q, trivial⟩
    refine tl_storeW sv37 rfl rfl rfl rfl rfl rfl rfl (tyVa hsa (pj_dg seed 3) (.slice ao38 ks38.length cap38) rfl) HB11_37 (by first | rfl | simp [kcells, bv_length, zero32_len, hsa.1, (pj_dg seed 3).1]) fun w39 g39 h39 => ?_
    replace HB3_2 := rw_st g39 HB3_2 (Ne.symm ne_B11_37_B3_2)
    replace HB7_7 := rw_st g39 HB7_7 (Ne.symm ne_B11_37_B7_7)
    replace hr := hr.offR g39 (fun k hk e => ap_hr_B11_37 k hk (Option.some.inj e).symm)
    replace hk38 := hk38.offR g39 (fun k hk e => ap_hk38_B11_37 k hk (Option.some.inj e).symm)
    replace HG := grown_newR HG g39 lo_B11_37
    replace HB11_37 := h39
    refine tl_assign sv37 rfl (.inl rfl) rfl rfl rfl rfl fun a40 sv40 => ?_
    replace sv40 : Sv 148 [] [(12, .int .i64 0), (8, .int .i64 (((3 : Nat) : Int))), (7, .pointer (some ⟨B7_7, 0, none⟩)), (1, .int .i64 xa), (2, .int .i64 xb), (31, .bool false), (50, vval sa ((pj seed 3)) (.slice ao38 ks38.length cap38)), (51, .int .i64 0), (11, .pointer (some ⟨B11_37, 0, none⟩))] a40 := sv40
    have sv41 : Sv 148 [] [(12, .int .i64 0), (8, .int .i64 (((3 : Nat) : Int))), (7, .pointer (some ⟨B7_7, 0, none⟩)), (1, .int .i64 xa), (2, .int .i64 xb), (31, .bool false), (11, .pointer (some ⟨B11_37, 0, none⟩))] a40 := ⟨sv40.1, sv40.2.1, sv40.2.2.1, sv40.2.2.2.1, sv40.2.2.2.2.1, sv40.2.2.2.2.2.1, sv40.2.2.2.2.2.2.1, sv40.2.2.2.2.2.2.2.1, sv40.2.2.2.2.2.2.2.2.2.2.1, trivial⟩
    refine tl_nil ?_
    refine k36 _ _ ?_
    refine wp_seq_k fun K42 k42 => ?_
    refine rx_tail (sv41.st w39) (by kernel_rfl) 7 [(53, Sp.is (vval sa ((pj seed 3)) (.slice ao ks.length cap))), (54, Sp.is (dval ((ow 1)))), (55, Sp.vt ((dropV P (ow 1), sa, (pj seed 3)), (0 : Int)) ((fun _ => False))), (52, Sp.vt ((dropV P (ow 1), sa, (pj seed 3)), (0 : Int)) ((fun _ => False))), (56, Sp.vv (dropV P (ow 1), sa, (pj seed 3)) ((fun _ => False))), (57, Sp.is (.int .i64 0)), (13, Sp.new w39.heap.size (([bv zero32, bv zero32, [.slice none 0 0]].flatten)) 58)] rfl (by kernel_rfl) (by kernel_rfl) (by kernel_rfl) [5] (by kernel_rfl)
      ⟨xl rfl rfl rfl rfl rfl (tyVa hsa (pj_dg seed 3) (.slice ao ks.length cap) rfl) HB7_7 rfl, ox_call (Sp.is (dval ((ow 1)))) [.int .i64 1] rfl rfl trivial ⟨rfl, trivial⟩ (is_on fun W g => owner_c (j := 1) rfl W) (fun _ _ h => h) (enter_of Try.func51 (by kernel_rfl) rfl), ox_call (Sp.vt ((dropV P (ow 1), sa, (pj seed 3)), (0 : Int)) ((fun _ => False))) [vval sa ((pj seed 3)) (.slice ao ks.length cap), dval ((ow 1))] rfl rfl trivial ⟨(oy rfl rfl), (oy rfl rfl), trivial⟩ (drp_on hsa (pj_dg seed 3) (ow_dg 1) hr hP (drpO_old hO.1 (hO.tr (j := 1) (by omega)).1)) (fun _ _ h => h) (enter_of Try.func37 (by kernel_rfl) rfl), xm rfl rfl rfl rfl rfl, ox_extract rfl rfl rfl trivial (fun w u h => vt_vault w u h), ox_extract rfl rfl rfl trivial (fun w u h => vt_err w u h), ox_alloc rfl trivial (Nat.le_refl _) (fun a w => by kernel_rfl) (fun _ _ h => h), trivial⟩ ⟨fun o ho => by obtain rfl := Option.some.inj ho; exact px_extract rfl rfl rfl trivial (fun w u h => vt_err w u h), trivial⟩
      [13] (by kernel_rfl) ⟨Sp.new_lt, trivial⟩ ⟨.inl rfl, .inl rfl, .inl rfl, .inl rfl, .inl rfl, .inl rfl, .inr ⟨rfl, (([bv zero32, bv zero32, [.slice none 0 0]].flatten)).toArray, 58, fun a w => by kernel_rfl⟩, trivial⟩ (by kernel_rfl) fun a43 w43 g43 st43 nd43 => ?_
    obtain ⟨hn43, hd43, e43_53, e43_54, e43_55, e43_52, e43_56, e43_57, e43_13, e43_12, e43_8, e43_7, e43_1, e43_2, e43_31, e43_11, -⟩ := st43
    obtain ⟨ao44, cap44, ks44, e43_56q, hp44, hk44, hf44⟩ := e43_56
    obtain ⟨B13_43, e43_13q, ge_B13_43, HB13_43⟩ := e43_13
    have ne_B13_43_B3_2 := nh_ne HB3_2 ge_B13_43
    have ne_B13_43_B7_7 := nh_ne HB7_7 ge_B13_43
    have ne_B13_43_B11_37 := nh_ne HB11_37 ge_B13_43
    have lo_B13_43 := nh_lo HG ge_B13_43
    have ap_hr_B13_43 := nh_ap (hr.lt) ge_B13_43
    have ap_hk38_B13_43 := nh_ap (hk38.lt) ge_B13_43
    replace HB3_2 := rw_kn g43 HB3_2
    replace HB7_7 := rw_kn g43 HB7_7
    replace HB11_37 := rw_kn g43 HB11_37
    replace hr := hr.kn g43
    replace hk38 := hk38.kn g43
    replace HG := grown_trans HG g43
    have ap_hk44_B3_2 : ∀ k, fpK (.slice ao44 ks44.length cap44) ks44 k → k ≠ B3_2 := fun k hk => (hf44 k hk).elim (fun h => h.elim) (fun t => tagv_ne t HB3_2 (by decide))
    have ap_hk44_B7_7 : ∀ k, fpK (.slice ao44 ks44.length cap44) ks44 k → k ≠ B7_7 := fun k hk => (hf44 k hk).elim (fun h => h.elim) (fun t => tagv_ne t HB7_7 (by decide))
    have ap_hk44_B11_37 : ∀ k, fpK (.slice ao44 ks44.length cap44) ks44 k → k ≠ B11_37 := fun k hk => (hf44 k hk).elim (fun h => h.elim) (fun t => tagv_ne t HB11_37 (by decide))
    have ap_hk44_B13_43 : ∀ k, fpK (.slice ao44 ks44.length cap44) ks44 k → k ≠ B13_43 := fun k hk => (hf44 k hk).elim (fun h => h.elim) (fun t => tagv_ne t HB13_43 (by decide))
    have sv43 : Sv 148 [] [(12, .int .i64 0), (8, .int .i64 (((3 : Nat) : Int))), (7, .pointer (some ⟨B7_7, 0, none⟩)), (1, .int .i64 xa), (2, .int .i64 xb), (31, .bool false), (11, .pointer (some ⟨B11_37, 0, none⟩)), (56, vval sa ((pj seed 3)) (.slice ao44 ks44.length cap44)), (57, .int .i64 0), (13, .pointer (some ⟨B13_43, 0, none⟩))] a43 := ⟨hn43, hd43, e43_12, e43_8, e43_7, e43_1, e43_2, e43_31, e43_11, e43_56q, e43_57, e43_13q, trivial⟩
    refine tl_storeW sv43 rfl rfl rfl rfl rfl rfl rfl (tyVa hsa (pj_dg seed 3) (.slice ao44 ks44.length cap44) rfl) HB13_43 (by first | rfl | simp [kcells, bv_length, zero32_len, hsa.1, (pj_dg seed 3).1]) fun w45 g45 h45 => ?_
    replace HB3_2 := rw_st g45 HB3_2 (Ne.symm ne_B13_43_B3_2)
    replace HB7_7 := rw_st g45 HB7_7 (Ne.symm ne_B13_43_B7_7)
    replace HB11_37 := rw_st g45 HB11_37 (Ne.symm ne_B13_43_B11_37)
    replace hr := hr.offR g45 (fun k hk e => ap_hr_B13_43 k hk (Option.some.inj e).symm)
    replace hk38 := hk38.offR g45 (fun k hk e => ap_hk38_B13_43 k hk (Option.some.inj e).symm)
    replace hk44 := hk44.offR g45 (fun k hk e => ap_hk44_B13_43 k hk (Option.some.inj e).symm)
    replace HG := grown_newR HG g45 lo_B13_43
    replace HB13_43 := h45
    refine tl_assign sv43 rfl (.inl rfl) rfl rfl rfl rfl fun a46 sv46 => ?_
    replace sv46 : Sv 148 [] [(14, .int .i64 0), (12, .int .i64 0), (8, .int .i64 (((3 : Nat) : Int))), (7, .pointer (some ⟨B7_7, 0, none⟩)), (1, .int .i64 xa), (2, .int .i64 xb), (31, .bool false), (11, .pointer (some ⟨B11_37, 0, none⟩)), (56, vval sa ((pj seed 3)) (.slice ao44 ks44.length cap44)), (57, .int .i64 0), (13, .pointer (some ⟨B13_43, 0, none⟩))] a46 := sv46
    have sv47 : Sv 148 [] [(14, .int .i64 0), (12, .int .i64 0), (8, .int .i64 (((3 : Nat) : Int))), (7, .pointer (some ⟨B7_7, 0, none⟩)), (1, .int .i64 xa), (2, .int .i64 xb), (31, .bool false), (11, .pointer (some ⟨B11_37, 0, none⟩)), (13, .pointer (some ⟨B13_43, 0, none⟩))] a46 := ⟨sv46.1, sv46.2.1, sv46.2.2.1, sv46.2.2.2.1, sv46.2.2.2.2.1, sv46.2.2.2.2.2.1, sv46.2.2.2.2.2.2.1, sv46.2.2.2.2.2.2.2.1, sv46.2.2.2.2.2.2.2.2.1, sv46.2.2.2.2.2.2.2.2.2.1, sv46.2.2.2.2.2.2.2.2.2.2.2.2.1, trivial⟩
    refine tl_nil ?_
    refine k42 _ _ ?_
    refine wp_seq_k fun K48 k48 => ?_
    refine wp_seq_k fun K49 k49 => ?_
    refine wp_region_lit ?_
    refine sx_head (sv47.st w45) 6 [(58, Sp.is (.int .i64 0)), (59, Sp.is (.bool false)), (60, Sp.is (.bool false)), (61, Sp.is (.int .i64 0)), (62, Sp.is (.bool false)), (63, Sp.is (.bool false))] rfl (by kernel_rfl) (by kernel_rfl) (by kernel_rfl)
      ⟨xm rfl rfl rfl rfl rfl, ox_bin rfl rfl trivial (oy rfl rfl) rfl (fun _ => rn_neq rfl) (fun _ => rfl), xm rfl rfl rfl rfl rfl, ox_move 14 61 (.inl rfl) rfl rfl (gy rfl rfl rfl) (fun _ _ h => h), ox_bin rfl rfl (gy rfl rfl rfl) (oy rfl rfl) rfl (fun _ => rn_neq rfl) (fun _ => rfl), ox_pick rfl rfl trivial (oy rfl rfl) (oy rfl rfl) (fun _ => rfl), trivial⟩ fun a50 w50 g50 st50 => ?_
    obtain ⟨hn50, hd50, e50_58, e50_59, e50_60, e50_61, e50_62, e50_63, e50_14, e50_12, e50_8, e50_7, e50_1, e50_2, e50_31, e50_11, e50_13, -⟩ := st50
    replace HB3_2 := rw_kn g50 HB3_2
    replace HB7_7 := rw_kn g50 HB7_7
    replace HB11_37 := rw_kn g50 HB11_37
    replace HB13_43 := rw_kn g50 HB13_43
    replace hr := hr.kn g50
    replace hk38 := hk38.kn g50
    replace hk44 := hk44.kn g50
    replace HG := grown_trans HG g50
    have sv50 : Sv 148 [] [(14, .int .i64 0), (12, .int .i64 0), (8, .int .i64 (((3 : Nat) : Int))), (7, .pointer (some ⟨B7_7, 0, none⟩)), (1, .int .i64 xa), (2, .int .i64 xb), (31, .bool false), (11, .pointer (some ⟨B11_37, 0, none⟩)), (13, .pointer (some ⟨B13_43, 0, none⟩)), (63, .bool false)] a50 := ⟨hn50, hd50, e50_14, e50_12, e50_8, e50_7, e50_1, e50_2, e50_31, e50_11, e50_13, e50_63, trivial⟩
    refine tl_nil ?_
    refine k49 _ _ ?_
    refine cx_ifF sv50 rfl rfl ?_
    refine wp_skip ?_
    refine k48 _ _ ?_
    refine wp_seq_k fun K51 k51 => ?_
    refine wp_seq_k fun K52 k52 => ?_
    refine wp_region_lit ?_
    refine tl_assign sv50 rfl (.inl rfl) rfl rfl rfl rfl fun a53 sv53 => ?_
    replace sv53 : Sv 148 [] [(15, .int .i64 0), (14, .int .i64 0), (12, .int .i64 0), (8, .int .i64 (((3 : Nat) : Int))), (7, .pointer (some ⟨B7_7, 0, none⟩)), (1, .int .i64 xa), (2, .int .i64 xb), (31, .bool false), (11, .pointer (some ⟨B11_37, 0, none⟩)), (13, .pointer (some ⟨B13_43, 0, none⟩)), (63, .bool false)] a53 := sv53
    refine tl_nil ?_
    refine k52 _ _ ?_
    refine cx_block fun Q54 x54 y54 r54 o54 => ?_
    refine wp_loop (fun a w' => ∃ (p : Nat), (p ≤ 2) ∧ Sv 148 [] [(15, .int .i64 (((2 * p : Nat) : Int))), (14, .int .i64 0), (12, .int .i64 0), (8, .int .i64 (((3 : Nat) : Int))), (7, .pointer (some ⟨B7_7, 0, none⟩)), (1, .int .i64 xa), (2, .int .i64 xb), (31, .bool false), (11, .pointer (some ⟨B11_37, 0, none⟩)), (13, .pointer (some ⟨B13_43, 0, none⟩)), (63, .bool false)] a ∧ w.grownBy w' none ∧ w'.heap[B3_2]? = some (.cells (bv seed).toArray 29 (0, 0)) ∧ w'.heap[B7_7]? = some (.cells ([bv sa, bv ((pj seed 3)), [.slice ao ks.length cap]].flatten).toArray 58 (0, 0)) ∧ w'.heap[B11_37]? = some (.cells ([bv sa, bv ((pj seed 3)), [.slice ao38 ks38.length cap38]].flatten).toArray 58 (0, 0)) ∧ w'.heap[B13_43]? = some (.cells ([bv sa, bv ((pj seed 3)), [.slice ao44 ks44.length cap44]].flatten).toArray 58 (0, 0)) ∧ RdK w' (.slice ao ks.length cap) ks ∧ RdK w' (.slice ao38 ks38.length cap38) ks38 ∧ RdK w' (.slice ao44 ks44.length cap44) ks44) (fun a _ => (4 - intOf (a.tmps.getD 15 undef)).toNat) ⟨0, by omega, ⟨sv53.1, sv53.2.1, sv53.2.2.1, sv53.2.2.2.1, sv53.2.2.2.2.1, sv53.2.2.2.2.2.1, sv53.2.2.2.2.2.2.1, sv53.2.2.2.2.2.2.2.1, sv53.2.2.2.2.2.2.2.2.1, sv53.2.2.2.2.2.2.2.2.2.1, sv53.2.2.2.2.2.2.2.2.2.2.1, sv53.2.2.2.2.2.2.2.2.2.2.2.1, sv53.2.2.2.2.2.2.2.2.2.2.2.2.1, trivial⟩, HG, HB3_2, HB7_7, HB11_37, HB13_43, hr, hk38, hk44⟩ fun a55 w55 hI55 => ?_
    clear HB3_2
    clear HB7_7
    clear HB11_37
    clear HB13_43
    clear hr
    clear hk38
    clear hk44
    clear HG
    obtain ⟨p, hp2, sv55, HG, HB3_2, HB7_7, HB11_37, HB13_43, hr, hk38, hk44⟩ := hI55
    refine wp_seq_k fun K56 k56 => ?_
    refine wp_seq_k fun K57 k57 => ?_
    by_cases hp : p < 2
    · refine wp_region_lit ?_
      refine sx_head (sv55.st w55) 2 [(64, Sp.is (.int .i64 (((2 * p : Nat) : Int)))), (65, Sp.is (.bool true))] rfl (by kernel_rfl) (by kernel_rfl) (by kernel_rfl)
        ⟨xm rfl rfl rfl rfl rfl, ox_bin rfl rfl trivial (oy rfl rfl) rfl (fun _ => rn_lss (decide_eq_true (by omega))) (fun _ => rfl), trivial⟩ fun a58 w58 g58 st58 => ?_
      obtain ⟨hn58, hd58, e58_64, e58_65, e58_15, e58_14, e58_12, e58_8, e58_7, e58_1, e58_2, e58_31, e58_11, e58_13, e58_63, -⟩ := st58
      replace HB3_2 := rw_kn g58 HB3_2
      replace HB7_7 := rw_kn g58 HB7_7
      replace HB11_37 := rw_kn g58 HB11_37
      replace HB13_43 := rw_kn g58 HB13_43
      replace hr := hr.kn g58
      replace hk38 := hk38.kn g58
      replace hk44 := hk44.kn g58
      replace HG := grown_trans HG g58
      have sv58 : Sv 148 [] [(15, .int .i64 (((2 * p : Nat) : Int))), (14, .int .i64 0), (12, .int .i64 0), (8, .int .i64 (((3 : Nat) : Int))), (7, .pointer (some ⟨B7_7, 0, none⟩)), (1, .int .i64 xa), (2, .int .i64 xb), (31, .bool false), (11, .pointer (some ⟨B11_37, 0, none⟩)), (13, .pointer (some ⟨B13_43, 0, none⟩)), (63, .bool false), (65, .bool true)] a58 := ⟨hn58, hd58, e58_15, e58_14, e58_12, e58_8, e58_7, e58_1, e58_2, e58_31, e58_11, e58_13, e58_63, e58_65, trivial⟩
      refine tl_nil ?_
      refine k57 _ _ ?_
      refine cx_ifT sv58 rfl rfl ?_
      refine wp_skip ?_
      refine k56 _ _ ?_
      refine wp_seq_k fun K59 k59 => ?_
      refine cx_block fun Q60 x60 y60 r60 o60 => ?_
      refine wp_seq_k fun K61 k61 => ?_
      refine wp_region_lit ?_
      refine tl_assign sv58 rfl (.inl rfl) rfl rfl rfl rfl fun a62 sv62 => ?_
      replace sv62 : Sv 148 [] [(16, .int .i64 0), (15, .int .i64 (((2 * p : Nat) : Int))), (14, .int .i64 0), (12, .int .i64 0), (8, .int .i64 (((3 : Nat) : Int))), (7, .pointer (some ⟨B7_7, 0, none⟩)), (1, .int .i64 xa), (2, .int .i64 xb), (31, .bool false), (11, .pointer (some ⟨B11_37, 0, none⟩)), (13, .pointer (some ⟨B13_43, 0, none⟩)), (63, .bool false), (65, .bool true)] a62 := sv62
      refine tl_nil ?_
      refine k61 _ _ ?_
      refine cx_block fun Q63 x63 y63 r63 o63 => ?_
      refine wp_loop (fun a w' => ∃ (k2 : Nat), (k2 ≤ 2) ∧ Sv 148 [] [(16, .int .i64 ((k2 : Int))), (15, .int .i64 (((2 * p : Nat) : Int))), (14, .int .i64 0), (12, .int .i64 0), (8, .int .i64 (((3 : Nat) : Int))), (7, .pointer (some ⟨B7_7, 0, none⟩)), (1, .int .i64 xa), (2, .int .i64 xb), (31, .bool false), (11, .pointer (some ⟨B11_37, 0, none⟩)), (13, .pointer (some ⟨B13_43, 0, none⟩)), (63, .bool false), (65, .bool true)] a ∧ w.grownBy w' none ∧ w'.heap[B3_2]? = some (.cells (bv seed).toArray 29 (0, 0)) ∧ w'.heap[B7_7]? = some (.cells ([bv sa, bv ((pj seed 3)), [.slice ao ks.length cap]].flatten).toArray 58 (0, 0)) ∧ w'.heap[B11_37]? = some (.cells ([bv sa, bv ((pj seed 3)), [.slice ao38 ks38.length cap38]].flatten).toArray 58 (0, 0)) ∧ w'.heap[B13_43]? = some (.cells ([bv sa, bv ((pj seed 3)), [.slice ao44 ks44.length cap44]].flatten).toArray 58 (0, 0)) ∧ RdK w' (.slice ao ks.length cap) ks ∧ RdK w' (.slice ao38 ks38.length cap38) ks38 ∧ RdK w' (.slice ao44 ks44.length cap44) ks44) (fun a _ => (2 - intOf (a.tmps.getD 16 undef)).toNat) ⟨0, by omega, ⟨sv62.1, sv62.2.1, sv62.2.2.1, sv62.2.2.2.1, sv62.2.2.2.2.1, sv62.2.2.2.2.2.1, sv62.2.2.2.2.2.2.1, sv62.2.2.2.2.2.2.2.1, sv62.2.2.2.2.2.2.2.2.1, sv62.2.2.2.2.2.2.2.2.2.1, sv62.2.2.2.2.2.2.2.2.2.2.1, sv62.2.2.2.2.2.2.2.2.2.2.2.1, sv62.2.2.2.2.2.2.2.2.2.2.2.2.1, sv62.2.2.2.2.2.2.2.2.2.2.2.2.2.1, sv62.2.2.2.2.2.2.2.2.2.2.2.2.2.2.1, trivial⟩, HG, HB3_2, HB7_7, HB11_37, HB13_43, hr, hk38, hk44⟩ fun a64 w64 hI64 => ?_
      clear HB3_2
      clear HB7_7
      clear HB11_37
      clear HB13_43
      clear hr
      clear hk38
      clear hk44
      clear HG
      obtain ⟨k2, hk2, sv64, HG, HB3_2, HB7_7, HB11_37, HB13_43, hr, hk38, hk44⟩ := hI64
      refine wp_seq_k fun K65 k65 => ?_
      refine wp_seq_k fun K66 k66 => ?_
      by_cases hk : k2 < 2
      · obtain ⟨N, hN⟩ : ∃ N, N = if k2 = 0 then A else B := ⟨_, rfl⟩
        have hNa : isAddr N = true := by rw [hN]; split <;> assumption
        obtain ⟨K, hKd, hK⟩ := leaf_new (kd_dg _ _) (hT (2 * p)) hNa
        have hq1 := keyO_tr hNa hO.1 (hO.tr (j := 2 * p) (by omega)) hK
        have hs2 := hS.2 (2 * p) (by omega)
        rw [if_neg (show ¬ 2 * p = 1 by omega)] at hs2
        have hq2 := keyO_tr hNa hS.1 hs2 hK
        have hq3 := keyO_tr hNa hD.1 (hD.2.2 (2 * p) (by omega) (by omega)) hK
        refine wp_region_lit ?_
        refine sx_head (sv64.st w64) 2 [(68, Sp.is (.int .i64 ((k2 : Int)))), (69, Sp.is (.bool true))] rfl (by kernel_rfl) (by kernel_rfl) (by kernel_rfl)
          ⟨xm rfl rfl rfl rfl rfl, ox_bin rfl rfl trivial (oy rfl rfl) rfl (fun _ => rn_lss (decide_eq_true (by omega))) (fun _ => rfl), trivial⟩ fun a67 w67 g67 st67 => ?_
        obtain ⟨hn67, hd67, e67_68, e67_69, e67_16, e67_15, e67_14, e67_12, e67_8, e67_7, e67_1, e67_2, e67_31, e67_11, e67_13, e67_63, e67_65, -⟩ := st67
        replace HB3_2 := rw_kn g67 HB3_2
        replace HB7_7 := rw_kn g67 HB7_7
        replace HB11_37 := rw_kn g67 HB11_37
        replace HB13_43 := rw_kn g67 HB13_43
        replace hr := hr.kn g67
        replace hk38 := hk38.kn g67
        replace hk44 := hk44.kn g67
        replace HG := grown_trans HG g67
        have sv67 : Sv 148 [] [(16, .int .i64 ((k2 : Int))), (15, .int .i64 (((2 * p : Nat) : Int))), (14, .int .i64 0), (12, .int .i64 0), (8, .int .i64 (((3 : Nat) : Int))), (7, .pointer (some ⟨B7_7, 0, none⟩)), (1, .int .i64 xa), (2, .int .i64 xb), (31, .bool false), (11, .pointer (some ⟨B11_37, 0, none⟩)), (13, .pointer (some ⟨B13_43, 0, none⟩)), (63, .bool false), (65, .bool true), (69, .bool true)] a67 := ⟨hn67, hd67, e67_16, e67_15, e67_14, e67_12, e67_8, e67_7, e67_1, e67_2, e67_31, e67_11, e67_13, e67_63, e67_65, e67_69, trivial⟩
        refine tl_nil ?_
        refine k66 _ _ ?_
        refine cx_ifT sv67 rfl rfl ?_
        refine wp_skip ?_
        refine k65 _ _ ?_
        refine wp_seq_k fun K68 k68 => ?_
        refine cx_block fun Q69 x69 y69 r69 o69 => ?_
        refine wp_seq_k fun K70 k70 => ?_
        refine wp_region_lit ?_
        refine sx_head (sv67.st w67) 7 [(72, Sp.is (.int .i64 xa)), (73, Sp.is (.int .i64 A)), (74, Sp.is (.int .i64 xb)), (75, Sp.is (.int .i64 B)), (76, Sp.is (.agg #[.int .i64 A, .int .i64 B])), (77, Sp.is (.int .i64 ((k2 : Int)))), (78, Sp.is (.int .i64 N))] rfl (by kernel_rfl) (by kernel_rfl) (by kernel_rfl)
          ⟨xm rfl rfl rfl rfl rfl, ox_call (Sp.is (.int .i64 A)) [.int .i64 xa] rfl rfl trivial ⟨(oy rfl rfl), trivial⟩ (is_on fun W g => hA ▸ adr_c _ W) (fun _ _ h => h) (enter_of Try.func30 (by kernel_rfl) rfl), xm rfl rfl rfl rfl rfl, ox_call (Sp.is (.int .i64 B)) [.int .i64 xb] rfl rfl trivial ⟨(oy rfl rfl), trivial⟩ (is_on fun W g => hB ▸ adr_c _ W) (fun _ _ h => h) (enter_of Try.func30 (by kernel_rfl) rfl), ox_build (vs := [.int .i64 A, .int .i64 B]) rfl rfl trivial ⟨(oy rfl rfl), (oy rfl rfl), trivial⟩ (fun _ => bI2 A B _) (fun _ => rfl), xm rfl rfl rfl rfl rfl, ox_at rfl rfl trivial (oy rfl rfl) (oy rfl rfl) (fun _ => ix_two hk hN _) (fun _ => rfl), trivial⟩ fun a71 w71 g71 st71 => ?_
        obtain ⟨hn71, hd71, e71_72, e71_73, e71_74, e71_75, e71_76, e71_77, e71_78, e71_16, e71_15, e71_14, e71_12, e71_8, e71_7, e71_1, e71_2, e71_31, e71_11, e71_13, e71_63, e71_65, e71_69, -⟩ := st71
        replace HB3_2 := rw_kn g71 HB3_2
        replace HB7_7 := rw_kn g71 HB7_7
        replace HB11_37 := rw_kn g71 HB11_37
        replace HB13_43 := rw_kn g71 HB13_43
        replace hr := hr.kn g71
        replace hk38 := hk38.kn g71
        replace hk44 := hk44.kn g71
        replace HG := grown_trans HG g71
        have sv71 : Sv 148 [] [(16, .int .i64 ((k2 : Int))), (15, .int .i64 (((2 * p : Nat) : Int))), (14, .int .i64 0), (12, .int .i64 0), (8, .int .i64 (((3 : Nat) : Int))), (7, .pointer (some ⟨B7_7, 0, none⟩)), (1, .int .i64 xa), (2, .int .i64 xb), (31, .bool false), (11, .pointer (some ⟨B11_37, 0, none⟩)), (13, .pointer (some ⟨B13_43, 0, none⟩)), (63, .bool false), (65, .bool true), (69, .bool true), (78, .int .i64 N)] a71 := ⟨hn71, hd71, e71_16, e71_15, e71_14, e71_12, e71_8, e71_7, e71_1, e71_2, e71_31, e71_11, e71_13, e71_63, e71_65, e71_69, e71_78, trivial⟩
        refine tl_assign sv71 rfl (.inl rfl) rfl rfl rfl rfl fun a72 sv72 => ?_
        replace sv72 : Sv 148 [] [(17, .int .i64 N), (16, .int .i64 ((k2 : Int))), (15, .int .i64 (((2 * p : Nat) : Int))), (14, .int .i64 0), (12, .int .i64 0), (8, .int .i64 (((3 : Nat) : Int))), (7, .pointer (some ⟨B7_7, 0, none⟩)), (1, .int .i64 xa), (2, .int .i64 xb), (31, .bool false), (11, .pointer (some ⟨B11_37, 0, none⟩)), (13, .pointer (some ⟨B13_43, 0, none⟩)), (63, .bool false), (65, .bool true), (69, .bool true), (78, .int .i64 N)] a72 := sv72
        have sv73 : Sv 148 [] [(17, .int .i64 N), (16, .int .i64 ((k2 : Int))), (15, .int .i64 (((2 * p : Nat) : Int))), (14, .int .i64 0), (12, .int .i64 0), (8, .int .i64 (((3 : Nat) : Int))), (7, .pointer (some ⟨B7_7, 0, none⟩)), (1, .int .i64 xa), (2, .int .i64 xb), (31, .bool false), (11, .pointer (some ⟨B11_37, 0, none⟩)), (13, .pointer (some ⟨B13_43, 0, none⟩)), (63, .bool false), (65, .bool true), (69, .bool true)] a72 := ⟨sv72.1, sv72.2.1, sv72.2.2.1, sv72.2.2.2.1, sv72.2.2.2.2.1, sv72.2.2.2.2.2.1, sv72.2.2.2.2.2.2.1, sv72.2.2.2.2.2.2.2.1, sv72.2.2.2.2.2.2.2.2.1, sv72.2.2.2.2.2.2.2.2.2.1, sv72.2.2.2.2.2.2.2.2.2.2.1, sv72.2.2.2.2.2.2.2.2.2.2.2.1, sv72.2.2.2.2.2.2.2.2.2.2.2.2.1, sv72.2.2.2.2.2.2.2.2.2.2.2.2.2.1, sv72.2.2.2.2.2.2.2.2.2.2.2.2.2.2.1, sv72.2.2.2.2.2.2.2.2.2.2.2.2.2.2.2.1, sv72.2.2.2.2.2.2.2.2.2.2.2.2.2.2.2.2.1, trivial⟩
        refine tl_nil ?_
        refine k70 _ _ ?_
        refine wp_seq_k fun K74 k74 => ?_
        refine rx_tail (sv73.st w71) (by kernel_rfl) 9 [(80, Sp.is (vval sa ((pj seed 3)) (.slice ao ks.length cap))), (81, Sp.is (.int .i64 (((2 * p : Nat) : Int)))), (82, Sp.is (dval ((ow (2 * p))))), (83, Sp.is (.int .i64 N)), (84, Sp.is (.tuple #[dval K, .int .i64 0])), (79, Sp.is (.tuple #[dval K, .int .i64 0])), (85, Sp.is (dval K)), (86, Sp.is (.int .i64 0)), (18, Sp.new w71.heap.size ((bv zero32)) 29)] rfl (by kernel_rfl) (by kernel_rfl) (by kernel_rfl) [7] (by kernel_rfl)
          ⟨xl rfl rfl rfl rfl rfl (tyVa hsa (pj_dg seed 3) (.slice ao ks.length cap) rfl) HB7_7 rfl, xm rfl rfl rfl rfl rfl, ox_call (Sp.is (dval ((ow (2 * p))))) [.int .i64 (((2 * p : Nat) : Int))] rfl rfl trivial ⟨(oy rfl rfl), trivial⟩ (is_on fun W g => owner_c (j := (2 * p)) rfl W) (fun _ _ h => h) (enter_of Try.func51 (by kernel_rfl) rfl), xm rfl rfl rfl rfl rfl, ox_call (Sp.is (.tuple #[dval K, .int .i64 0])) [vval sa ((pj seed 3)) (.slice ao ks.length cap), dval ((ow (2 * p))), .int .i64 N] rfl rfl trivial ⟨(oy rfl rfl), (oy rfl rfl), (oy rfl rfl), trivial⟩ (is_on fun W g => key_B (q := (K, 0)) hsa (pj_dg seed 3) (ow_dg _) (hr.kn g) hP hq1) (fun _ _ h => h) (enter_of Try.func39 (by kernel_rfl) rfl), xm rfl rfl rfl rfl rfl, ox_extract rfl rfl rfl trivial (fun _ _ h => ⟨_, _, h, rfl, rfl⟩), ox_extract rfl rfl rfl trivial (fun _ _ h => ⟨_, _, h, rfl, rfl⟩), ox_alloc rfl trivial (Nat.le_refl _) (fun a w => by kernel_rfl) (fun _ _ h => h), trivial⟩ ⟨fun o ho => by obtain rfl := Option.some.inj ho; exact px_extract rfl rfl rfl trivial (fun _ _ h => ⟨_, _, h, rfl, rfl⟩), trivial⟩
          [18] (by kernel_rfl) ⟨Sp.new_lt, trivial⟩ ⟨.inl rfl, .inl rfl, .inl rfl, .inl rfl, .inl rfl, .inl rfl, .inl rfl, .inl rfl, .inr ⟨rfl, ((bv zero32)).toArray, 29, fun a w => by kernel_rfl⟩, trivial⟩ (by kernel_rfl) fun a75 w75 g75 st75 nd75 => ?_
        obtain ⟨hn75, hd75, e75_80, e75_81, e75_82, e75_83, e75_84, e75_79, e75_85, e75_86, e75_18, e75_17, e75_16, e75_15, e75_14, e75_12, e75_8, e75_7, e75_1, e75_2, e75_31, e75_11, e75_13, e75_63, e75_65, e75_69, -⟩ := st75
        obtain ⟨B18_75, e75_18q, ge_B18_75, HB18_75⟩ := e75_18
        have ne_B18_75_B3_2 := nh_ne HB3_2 ge_B18_75
        have ne_B18_75_B7_7 := nh_ne HB7_7 ge_B18_75
        have ne_B18_75_B11_37 := nh_ne HB11_37 ge_B18_75
        have ne_B18_75_B13_43 := nh_ne HB13_43 ge_B18_75
        have lo_B18_75 := nh_lo HG ge_B18_75
        have ap_hr_B18_75 := nh_ap (hr.lt) ge_B18_75
        have ap_hk38_B18_75 := nh_ap (hk38.lt) ge_B18_75
        have ap_hk44_B18_75 := nh_ap (hk44.lt) ge_B18_75
        replace HB3_2 := rw_kn g75 HB3_2
        replace HB7_7 := rw_kn g75 HB7_7
        replace HB11_37 := rw_kn g75 HB11_37
        replace HB13_43 := rw_kn g75 HB13_43
        replace hr := hr.kn g75
        replace hk38 := hk38.kn g75
        replace hk44 := hk44.kn g75
        replace HG := grown_trans HG g75
        have sv75 : Sv 148 [] [(17, .int .i64 N), (16, .int .i64 ((k2 : Int))), (15, .int .i64 (((2 * p : Nat) : Int))), (14, .int .i64 0), (12, .int .i64 0), (8, .int .i64 (((3 : Nat) : Int))), (7, .pointer (some ⟨B7_7, 0, none⟩)), (1, .int .i64 xa), (2, .int .i64 xb), (31, .bool false), (11, .pointer (some ⟨B11_37, 0, none⟩)), (13, .pointer (some ⟨B13_43, 0, none⟩)), (63, .bool false), (65, .bool true), (69, .bool true), (85, dval K), (86, .int .i64 0), (18, .pointer (some ⟨B18_75, 0, none⟩))] a75 := ⟨hn75, hd75, e75_17, e75_16, e75_15, e75_14, e75_12, e75_8, e75_7, e75_1, e75_2, e75_31, e75_11, e75_13, e75_63, e75_65, e75_69, e75_85, e75_86, e75_18q, trivial⟩
        refine tl_storeW sv75 rfl rfl rfl rfl rfl rfl rfl (tyD K hKd.1) HB18_75 (lenD hKd) fun w76 g76 h76 => ?_
        replace HB3_2 := rw_st g76 HB3_2 (Ne.symm ne_B18_75_B3_2)
        replace HB7_7 := rw_st g76 HB7_7 (Ne.symm ne_B18_75_B7_7)
        replace HB11_37 := rw_st g76 HB11_37 (Ne.symm ne_B18_75_B11_37)
        replace HB13_43 := rw_st g76 HB13_43 (Ne.symm ne_B18_75_B13_43)
        replace hr := hr.offR g76 (fun k hk e => ap_hr_B18_75 k hk (Option.some.inj e).symm)
        replace hk38 := hk38.offR g76 (fun k hk e => ap_hk38_B18_75 k hk (Option.some.inj e).symm)
        replace hk44 := hk44.offR g76 (fun k hk e => ap_hk44_B18_75 k hk (Option.some.inj e).symm)
        replace HG := grown_newR HG g76 lo_B18_75
        replace HB18_75 := h76
        refine tl_assign sv75 rfl (.inl rfl) rfl rfl rfl rfl fun a77 sv77 => ?_
        replace sv77 : Sv 148 [] [(19, .int .i64 0), (17, .int .i64 N), (16, .int .i64 ((k2 : Int))), (15, .int .i64 (((2 * p : Nat) : Int))), (14, .int .i64 0), (12, .int .i64 0), (8, .int .i64 (((3 : Nat) : Int))), (7, .pointer (some ⟨B7_7, 0, none⟩)), (1, .int .i64 xa), (2, .int .i64 xb), (31, .bool false), (11, .pointer (some ⟨B11_37, 0, none⟩)), (13, .pointer (some ⟨B13_43, 0, none⟩)), (63, .bool false), (65, .bool true), (69, .bool true), (85, dval K), (86, .int .i64 0), (18, .pointer (some ⟨B18_75, 0, none⟩))] a77 := sv77
        have sv78 : Sv 148 [] [(19, .int .i64 0), (17, .int .i64 N), (16, .int .i64 ((k2 : Int))), (15, .int .i64 (((2 * p : Nat) : Int))), (14, .int .i64 0), (12, .int .i64 0), (8, .int .i64 (((3 : Nat) : Int))), (7, .pointer (some ⟨B7_7, 0, none⟩)), (1, .int .i64 xa), (2, .int .i64 xb), (31, .bool false), (11, .pointer (some ⟨B11_37, 0, none⟩)), (13, .pointer (some ⟨B13_43, 0, none⟩)), (63, .bool false), (65, .bool true), (69, .bool true), (18, .pointer (some ⟨B18_75, 0, none⟩))] a77 := ⟨sv77.1, sv77.2.1, sv77.2.2.1, sv77.2.2.2.1, sv77.2.2.2.2.1, sv77.2.2.2.2.2.1, sv77.2.2.2.2.2.2.1, sv77.2.2.2.2.2.2.2.1, sv77.2.2.2.2.2.2.2.2.1, sv77.2.2.2.2.2.2.2.2.2.1, sv77.2.2.2.2.2.2.2.2.2.2.1, sv77.2.2.2.2.2.2.2.2.2.2.2.1, sv77.2.2.2.2.2.2.2.2.2.2.2.2.1, sv77.2.2.2.2.2.2.2.2.2.2.2.2.2.1, sv77.2.2.2.2.2.2.2.2.2.2.2.2.2.2.1, sv77.2.2.2.2.2.2.2.2.2.2.2.2.2.2.2.1, sv77.2.2.2.2.2.2.2.2.2.2.2.2.2.2.2.2.1, sv77.2.2.2.2.2.2.2.2.2.2.2.2.2.2.2.2.2.1, sv77.2.2.2.2.2.2.2.2.2.2.2.2.2.2.2.2.2.2.2.2.1, trivial⟩
        refine tl_nil ?_
        refine k74 _ _ ?_
        refine wp_seq_k fun K79 k79 => ?_
        refine rx_tail (sv78.st w76) (by kernel_rfl) 9 [(88, Sp.is (vval sa ((pj seed 3)) (.slice ao38 ks38.length cap38))), (89, Sp.is (.int .i64 (((2 * p : Nat) : Int)))), (90, Sp.is (dval ((ow (2 * p))))), (91, Sp.is (.int .i64 N)), (92, Sp.is (.tuple #[dval K, .int .i64 0])), (87, Sp.is (.tuple #[dval K, .int .i64 0])), (93, Sp.is (dval K)), (94, Sp.is (.int .i64 0)), (20, Sp.new w76.heap.size ((bv zero32)) 29)] rfl (by kernel_rfl) (by kernel_rfl) (by kernel_rfl) [7] (by kernel_rfl)
          ⟨xl rfl rfl rfl rfl rfl (tyVa hsa (pj_dg seed 3) (.slice ao38 ks38.length cap38) rfl) HB11_37 rfl, xm rfl rfl rfl rfl rfl, ox_call (Sp.is (dval ((ow (2 * p))))) [.int .i64 (((2 * p : Nat) : Int))] rfl rfl trivial ⟨(oy rfl rfl), trivial⟩ (is_on fun W g => owner_c (j := (2 * p)) rfl W) (fun _ _ h => h) (enter_of Try.func51 (by kernel_rfl) rfl), xm rfl rfl rfl rfl rfl, ox_call (Sp.is (.tuple #[dval K, .int .i64 0])) [vval sa ((pj seed 3)) (.slice ao38 ks38.length cap38), dval ((ow (2 * p))), .int .i64 N] rfl rfl trivial ⟨(oy rfl rfl), (oy rfl rfl), (oy rfl rfl), trivial⟩ (is_on fun W g => key_B (q := (K, 0)) hsa (pj_dg seed 3) (ow_dg _) (hk38.kn g) hp38 hq2) (fun _ _ h => h) (enter_of Try.func39 (by kernel_rfl) rfl), xm rfl rfl rfl rfl rfl, ox_extract rfl rfl rfl trivial (fun _ _ h => ⟨_, _, h, rfl, rfl⟩), ox_extract rfl rfl rfl trivial (fun _ _ h => ⟨_, _, h, rfl, rfl⟩), ox_alloc rfl trivial (Nat.le_refl _) (fun a w => by kernel_rfl) (fun _ _ h => h), trivial⟩ ⟨fun o ho => by obtain rfl := Option.some.inj ho; exact px_extract rfl rfl rfl trivial (fun _ _ h => ⟨_, _, h, rfl, rfl⟩), trivial⟩
          [20] (by kernel_rfl) ⟨Sp.new_lt, trivial⟩ ⟨.inl rfl, .inl rfl, .inl rfl, .inl rfl, .inl rfl, .inl rfl, .inl rfl, .inl rfl, .inr ⟨rfl, ((bv zero32)).toArray, 29, fun a w => by kernel_rfl⟩, trivial⟩ (by kernel_rfl) fun a80 w80 g80 st80 nd80 => ?_
        obtain ⟨hn80, hd80, e80_88, e80_89, e80_90, e80_91, e80_92, e80_87, e80_93, e80_94, e80_20, e80_19, e80_17, e80_16, e80_15, e80_14, e80_12, e80_8, e80_7, e80_1, e80_2, e80_31, e80_11, e80_13, e80_63, e80_65, e80_69, e80_18, -⟩ := st80
        obtain ⟨B20_80, e80_20q, ge_B20_80, HB20_80⟩ := e80_20
        have ne_B20_80_B3_2 := nh_ne HB3_2 ge_B20_80
        have ne_B20_80_B7_7 := nh_ne HB7_7 ge_B20_80
        have ne_B20_80_B11_37 := nh_ne HB11_37 ge_B20_80
        have ne_B20_80_B13_43 := nh_ne HB13_43 ge_B20_80
        have ne_B20_80_B18_75 := nh_ne HB18_75 ge_B20_80
        have lo_B20_80 := nh_lo HG ge_B20_80
        have ap_hr_B20_80 := nh_ap (hr.lt) ge_B20_80
        have ap_hk38_B20_80 := nh_ap (hk38.lt) ge_B20_80
        have ap_hk44_B20_80 := nh_ap (hk44.lt) ge_B20_80
        replace HB3_2 := rw_kn g80 HB3_2
        replace HB7_7 := rw_kn g80 HB7_7
        replace HB11_37 := rw_kn g80 HB11_37
        replace HB13_43 := rw_kn g80 HB13_43
        replace HB18_75 := rw_kn g80 HB18_75
        replace hr := hr.kn g80
        replace hk38 := hk38.kn g80
        replace hk44 := hk44.kn g80
        replace HG := grown_trans HG g80
        have sv80 : Sv 148 [] [(19, .int .i64 0), (17, .int .i64 N), (16, .int .i64 ((k2 : Int))), (15, .int .i64 (((2 * p : Nat) : Int))), (14, .int .i64 0), (12, .int .i64 0), (8, .int .i64 (((3 : Nat) : Int))), (7, .pointer (some ⟨B7_7, 0, none⟩)), (1, .int .i64 xa), (2, .int .i64 xb), (31, .bool false), (11, .pointer (some ⟨B11_37, 0, none⟩)), (13, .pointer (some ⟨B13_43, 0, none⟩)), (63, .bool false), (65, .bool true), (69, .bool true), (18, .pointer (some ⟨B18_75, 0, none⟩)), (93, dval K), (94, .int .i64 0), (20, .pointer (some ⟨B20_80, 0, none⟩))] a80 := ⟨hn80, hd80, e80_19, e80_17, e80_16, e80_15, e80_14, e80_12, e80_8, e80_7, e80_1, e80_2, e80_31, e80_11, e80_13, e80_63, e80_65, e80_69, e80_18, e80_93, e80_94, e80_20q, trivial⟩
        refine tl_storeW sv80 rfl rfl rfl rfl rfl rfl rfl (tyD K hKd.1) HB20_80 (lenD hKd) fun w81 g81 h81 => ?_
        replace HB3_2 := rw_st g81 HB3_2 (Ne.symm ne_B20_80_B3_2)
        replace HB7_7 := rw_st g81 HB7_7 (Ne.symm ne_B20_80_B7_7)
        replace HB11_37 := rw_st g81 HB11_37 (Ne.symm ne_B20_80_B11_37)
        replace HB13_43 := rw_st g81 HB13_43 (Ne.symm ne_B20_80_B13_43)
        replace HB18_75 := rw_st g81 HB18_75 (Ne.symm ne_B20_80_B18_75)
        replace hr := hr.offR g81 (fun k hk e => ap_hr_B20_80 k hk (Option.some.inj e).symm)
        replace hk38 := hk38.offR g81 (fun k hk e => ap_hk38_B20_80 k hk (Option.some.inj e).symm)
        replace hk44 := hk44.offR g81 (fun k hk e => ap_hk44_B20_80 k hk (Option.some.inj e).symm)
        replace HG := grown_newR HG g81 lo_B20_80
        replace HB20_80 := h81
        refine tl_assign sv80 rfl (.inl rfl) rfl rfl rfl rfl fun a82 sv82 => ?_
        replace sv82 : Sv 148 [] [(21, .int .i64 0), (19, .int .i64 0), (17, .int .i64 N), (16, .int .i64 ((k2 : Int))), (15, .int .i64 (((2 * p : Nat) : Int))), (14, .int .i64 0), (12, .int .i64 0), (8, .int .i64 (((3 : Nat) : Int))), (7, .pointer (some ⟨B7_7, 0, none⟩)), (1, .int .i64 xa), (2, .int .i64 xb), (31, .bool false), (11, .pointer (some ⟨B11_37, 0, none⟩)), (13, .pointer (some ⟨B13_43, 0, none⟩)), (63, .bool false), (65, .bool true), (69, .bool true), (18, .pointer (some ⟨B18_75, 0, none⟩)), (93, dval K), (94, .int .i64 0), (20, .pointer (some ⟨B20_80, 0, none⟩))] a82 := sv82
        have sv83 : Sv 148 [] [(21, .int .i64 0), (19, .int .i64 0), (17, .int .i64 N), (16, .int .i64 ((k2 : Int))), (15, .int .i64 (((2 * p : Nat) : Int))), (14, .int .i64 0), (12, .int .i64 0), (8, .int .i64 (((3 : Nat) : Int))), (7, .pointer (some ⟨B7_7, 0, none⟩)), (1, .int .i64 xa), (2, .int .i64 xb), (31, .bool false), (11, .pointer (some ⟨B11_37, 0, none⟩)), (13, .pointer (some ⟨B13_43, 0, none⟩)), (63, .bool false), (65, .bool true), (69, .bool true), (18, .pointer (some ⟨B18_75, 0, none⟩)), (20, .pointer (some ⟨B20_80, 0, none⟩))] a82 := ⟨sv82.1, sv82.2.1, sv82.2.2.1, sv82.2.2.2.1, sv82.2.2.2.2.1, sv82.2.2.2.2.2.1, sv82.2.2.2.2.2.2.1, sv82.2.2.2.2.2.2.2.1, sv82.2.2.2.2.2.2.2.2.1, sv82.2.2.2.2.2.2.2.2.2.1, sv82.2.2.2.2.2.2.2.2.2.2.1, sv82.2.2.2.2.2.2.2.2.2.2.2.1, sv82.2.2.2.2.2.2.2.2.2.2.2.2.1, sv82.2.2.2.2.2.2.2.2.2.2.2.2.2.1, sv82.2.2.2.2.2.2.2.2.2.2.2.2.2.2.1, sv82.2.2.2.2.2.2.2.2.2.2.2.2.2.2.2.1, sv82.2.2.2.2.2.2.2.2.2.2.2.2.2.2.2.2.1, sv82.2.2.2.2.2.2.2.2.2.2.2.2.2.2.2.2.2.1, sv82.2.2.2.2.2.2.2.2.2.2.2.2.2.2.2.2.2.2.1, sv82.2.2.2.2.2.2.2.2.2.2.2.2.2.2.2.2.2.2.2.1, sv82.2.2.2.2.2.2.2.2.2.2.2.2.2.2.2.2.2.2.2.2.2.2.1, trivial⟩
        refine tl_nil ?_
        refine k79 _ _ ?_
        refine wp_seq_k fun K84 k84 => ?_
        refine rx_tail (sv83.st w81) (by kernel_rfl) 9 [(96, Sp.is (vval sa ((pj seed 3)) (.slice ao44 ks44.length cap44))), (97, Sp.is (.int .i64 (((2 * p : Nat) : Int)))), (98, Sp.is (dval ((ow (2 * p))))), (99, Sp.is (.int .i64 N)), (100, Sp.is (.tuple #[dval K, .int .i64 0])), (95, Sp.is (.tuple #[dval K, .int .i64 0])), (101, Sp.is (dval K)), (102, Sp.is (.int .i64 0)), (22, Sp.new w81.heap.size ((bv zero32)) 29)] rfl (by kernel_rfl) (by kernel_rfl) (by kernel_rfl) [7] (by kernel_rfl)
          ⟨xl rfl rfl rfl rfl rfl (tyVa hsa (pj_dg seed 3) (.slice ao44 ks44.length cap44) rfl) HB13_43 rfl, xm rfl rfl rfl rfl rfl, ox_call (Sp.is (dval ((ow (2 * p))))) [.int .i64 (((2 * p : Nat) : Int))] rfl rfl trivial ⟨(oy rfl rfl), trivial⟩ (is_on fun W g => owner_c (j := (2 * p)) rfl W) (fun _ _ h => h) (enter_of Try.func51 (by kernel_rfl) rfl), xm rfl rfl rfl rfl rfl, ox_call (Sp.is (.tuple #[dval K, .int .i64 0])) [vval sa ((pj seed 3)) (.slice ao44 ks44.length cap44), dval ((ow (2 * p))), .int .i64 N] rfl rfl trivial ⟨(oy rfl rfl), (oy rfl rfl), (oy rfl rfl), trivial⟩ (is_on fun W g => key_B (q := (K, 0)) hsa (pj_dg seed 3) (ow_dg _) (hk44.kn g) hp44 hq3) (fun _ _ h => h) (enter_of Try.func39 (by kernel_rfl) rfl), xm rfl rfl rfl rfl rfl, ox_extract rfl rfl rfl trivial (fun _ _ h => ⟨_, _, h, rfl, rfl⟩), ox_extract rfl rfl rfl trivial (fun _ _ h => ⟨_, _, h, rfl, rfl⟩), ox_alloc rfl trivial (Nat.le_refl _) (fun a w => by kernel_rfl) (fun _ _ h => h), trivial⟩ ⟨fun o ho => by obtain rfl := Option.some.inj ho; exact px_extract rfl rfl rfl trivial (fun _ _ h => ⟨_, _, h, rfl, rfl⟩), trivial⟩
          [22] (by kernel_rfl) ⟨Sp.new_lt, trivial⟩ ⟨.inl rfl, .inl rfl, .inl rfl, .inl rfl, .inl rfl, .inl rfl, .inl rfl, .inl rfl, .inr ⟨rfl, ((bv zero32)).toArray, 29, fun a w => by kernel_rfl⟩, trivial⟩ (by kernel_rfl) fun a85 w85 g85 st85 nd85 => ?_
        obtain ⟨hn85, hd85, e85_96, e85_97, e85_98, e85_99, e85_100, e85_95, e85_101, e85_102, e85_22, e85_21, e85_19, e85_17, e85_16, e85_15, e85_14, e85_12, e85_8, e85_7, e85_1, e85_2, e85_31, e85_11, e85_13, e85_63, e85_65, e85_69, e85_18, e85_20, -⟩ := st85
        obtain ⟨B22_85, e85_22q, ge_B22_85, HB22_85⟩ := e85_22
        have ne_B22_85_B3_2 := nh_ne HB3_2 ge_B22_85
        have ne_B22_85_B7_7 := nh_ne HB7_7 ge_B22_85
        have ne_B22_85_B11_37 := nh_ne HB11_37 ge_B22_85
        have ne_B22_85_B13_43 := nh_ne HB13_43 ge_B22_85
        have ne_B22_85_B18_75 := nh_ne HB18_75 ge_B22_85
        have ne_B22_85_B20_80 := nh_ne HB20_80 ge_B22_85
        have lo_B22_85 := nh_lo HG ge_B22_85
        have ap_hr_B22_85 := nh_ap (hr.lt) ge_B22_85
        have ap_hk38_B22_85 := nh_ap (hk38.lt) ge_B22_85
        have ap_hk44_B22_85 := nh_ap (hk44.lt) ge_B22_85
        replace HB3_2 := rw_kn g85 HB3_2
        replace HB7_7 := rw_kn g85 HB7_7
        replace HB11_37 := rw_kn g85 HB11_37
        replace HB13_43 := rw_kn g85 HB13_43
        replace HB18_75 := rw_kn g85 HB18_75
        replace HB20_80 := rw_kn g85 HB20_80
        replace hr := hr.kn g85
        replace hk38 := hk38.kn g85
        replace hk44 := hk44.kn g85
        replace HG := grown_trans HG g85
        have sv85 : Sv 148 [] [(21, .int .i64 0), (19, .int .i64 0), (17, .int .i64 N), (16, .int .i64 ((k2 : Int))), (15, .int .i64 (((2 * p : Nat) : Int))), (14, .int .i64 0), (12, .int .i64 0), (8, .int .i64 (((3 : Nat) : Int))), (7, .pointer (some ⟨B7_7, 0, none⟩)), (1, .int .i64 xa), (2, .int .i64 xb), (31, .bool false), (11, .pointer (some ⟨B11_37, 0, none⟩)), (13, .pointer (some ⟨B13_43, 0, none⟩)), (63, .bool false), (65, .bool true), (69, .bool true), (18, .pointer (some ⟨B18_75, 0, none⟩)), (20, .pointer (some ⟨B20_80, 0, none⟩)), (101, dval K), (102, .int .i64 0), (22, .pointer (some ⟨B22_85, 0, none⟩))] a85 := ⟨hn85, hd85, e85_21, e85_19, e85_17, e85_16, e85_15, e85_14, e85_12, e85_8, e85_7, e85_1, e85_2, e85_31, e85_11, e85_13, e85_63, e85_65, e85_69, e85_18, e85_20, e85_101, e85_102, e85_22q, trivial⟩
        refine tl_storeW sv85 rfl rfl rfl rfl rfl rfl rfl (tyD K hKd.1) HB22_85 (lenD hKd) fun w86 g86 h86 => ?_
        replace HB3_2 := rw_st g86 HB3_2 (Ne.symm ne_B22_85_B3_2)
        replace HB7_7 := rw_st g86 HB7_7 (Ne.symm ne_B22_85_B7_7)
        replace HB11_37 := rw_st g86 HB11_37 (Ne.symm ne_B22_85_B11_37)
        replace HB13_43 := rw_st g86 HB13_43 (Ne.symm ne_B22_85_B13_43)
        replace HB18_75 := rw_st g86 HB18_75 (Ne.symm ne_B22_85_B18_75)
        replace HB20_80 := rw_st g86 HB20_80 (Ne.symm ne_B22_85_B20_80)
        replace hr := hr.offR g86 (fun k hk e => ap_hr_B22_85 k hk (Option.some.inj e).symm)
        replace hk38 := hk38.offR g86 (fun k hk e => ap_hk38_B22_85 k hk (Option.some.inj e).symm)
        replace hk44 := hk44.offR g86 (fun k hk e => ap_hk44_B22_85 k hk (Option.some.inj e).symm)
        replace HG := grown_newR HG g86 lo_B22_85
        replace HB22_85 := h86
        refine tl_assign sv85 rfl (.inl rfl) rfl rfl rfl rfl fun a87 sv87 => ?_
        replace sv87 : Sv 148 [] [(23, .int .i64 0), (21, .int .i64 0), (19, .int .i64 0), (17, .int .i64 N), (16, .int .i64 ((k2 : Int))), (15, .int .i64 (((2 * p : Nat) : Int))), (14, .int .i64 0), (12, .int .i64 0), (8, .int .i64 (((3 : Nat) : Int))), (7, .pointer (some ⟨B7_7, 0, none⟩)), (1, .int .i64 xa), (2, .int .i64 xb), (31, .bool false), (11, .pointer (some ⟨B11_37, 0, none⟩)), (13, .pointer (some ⟨B13_43, 0, none⟩)), (63, .bool false), (65, .bool true), (69, .bool true), (18, .pointer (some ⟨B18_75, 0, none⟩)), (20, .pointer (some ⟨B20_80, 0, none⟩)), (101, dval K), (102, .int .i64 0), (22, .pointer (some ⟨B22_85, 0, none⟩))] a87 := sv87
        have sv88 : Sv 148 [] [(23, .int .i64 0), (21, .int .i64 0), (19, .int .i64 0), (17, .int .i64 N), (16, .int .i64 ((k2 : Int))), (15, .int .i64 (((2 * p : Nat) : Int))), (14, .int .i64 0), (12, .int .i64 0), (8, .int .i64 (((3 : Nat) : Int))), (7, .pointer (some ⟨B7_7, 0, none⟩)), (1, .int .i64 xa), (2, .int .i64 xb), (31, .bool false), (11, .pointer (some ⟨B11_37, 0, none⟩)), (13, .pointer (some ⟨B13_43, 0, none⟩)), (63, .bool false), (65, .bool true), (69, .bool true), (18, .pointer (some ⟨B18_75, 0, none⟩)), (20, .pointer (some ⟨B20_80, 0, none⟩)), (22, .pointer (some ⟨B22_85, 0, none⟩))] a87 := ⟨sv87.1, sv87.2.1, sv87.2.2.1, sv87.2.2.2.1, sv87.2.2.2.2.1, sv87.2.2.2.2.2.1, sv87.2.2.2.2.2.2.1, sv87.2.2.2.2.2.2.2.1, sv87.2.2.2.2.2.2.2.2.1, sv87.2.2.2.2.2.2.2.2.2.1, sv87.2.2.2.2.2.2.2.2.2.2.1, sv87.2.2.2.2.2.2.2.2.2.2.2.1, sv87.2.2.2.2.2.2.2.2.2.2.2.2.1, sv87.2.2.2.2.2.2.2.2.2.2.2.2.2.1, sv87.2.2.2.2.2.2.2.2.2.2.2.2.2.2.1, sv87.2.2.2.2.2.2.2.2.2.2.2.2.2.2.2.1, sv87.2.2.2.2.2.2.2.2.2.2.2.2.2.2.2.2.1, sv87.2.2.2.2.2.2.2.2.2.2.2.2.2.2.2.2.2.1, sv87.2.2.2.2.2.2.2.2.2.2.2.2.2.2.2.2.2.2.1, sv87.2.2.2.2.2.2.2.2.2.2.2.2.2.2.2.2.2.2.2.1, sv87.2.2.2.2.2.2.2.2.2.2.2.2.2.2.2.2.2.2.2.2.1, sv87.2.2.2.2.2.2.2.2.2.2.2.2.2.2.2.2.2.2.2.2.2.1, sv87.2.2.2.2.2.2.2.2.2.2.2.2.2.2.2.2.2.2.2.2.2.2.2.2.1, trivial⟩
        refine tl_nil ?_
        refine k84 _ _ ?_
        refine wp_seq_k fun K89 k89 => ?_
        refine wp_region_lit ?_
        refine sx_head (sv88.st w86) 20 [(103, Sp.is (.int .i64 0)), (104, Sp.is (.bool false)), (105, Sp.is (.bool false)), (106, Sp.is (.int .i64 0)), (107, Sp.is (.bool false)), (108, Sp.is (.bool false)), (109, Sp.is (.bool false)), (110, Sp.is (.int .i64 0)), (111, Sp.is (.bool false)), (112, Sp.is (.bool false)), (113, Sp.is (.bool false)), (114, Sp.is (dval K)), (115, Sp.is (dval K)), (116, Sp.is (.bool false)), (117, Sp.is (.bool false)), (118, Sp.is (.bool false)), (119, Sp.is (dval K)), (120, Sp.is (dval K)), (121, Sp.is (.bool false)), (122, Sp.is (.bool false))] rfl (by kernel_rfl) (by kernel_rfl) (by kernel_rfl)
          ⟨xm rfl rfl rfl rfl rfl, ox_bin rfl rfl trivial (oy rfl rfl) rfl (fun _ => rn_neq rfl) (fun _ => rfl), xm rfl rfl rfl rfl rfl, ox_move 21 106 (.inl rfl) rfl rfl (gy rfl rfl rfl) (fun _ _ h => h), ox_bin rfl rfl (gy rfl rfl rfl) (oy rfl rfl) rfl (fun _ => rn_neq rfl) (fun _ => rfl), ox_pick rfl rfl trivial (oy rfl rfl) (oy rfl rfl) (fun _ => rfl), xm rfl rfl rfl rfl rfl, ox_move 23 110 (.inl rfl) rfl rfl (gy rfl rfl rfl) (fun _ _ h => h), ox_bin rfl rfl (gy rfl rfl rfl) (oy rfl rfl) rfl (fun _ => rn_neq rfl) (fun _ => rfl), ox_pick rfl rfl trivial (oy rfl rfl) (oy rfl rfl) (fun _ => rfl), xm rfl rfl rfl rfl rfl, ox_load rfl rfl (gy rfl rfl rfl) (oy rfl rfl) (fun _ g => loadsAt (tyD K hKd.1) (rangeAt_row (row_of g HB18_75 (by simp)))) (fun _ => rfl), ox_load rfl rfl (gy rfl rfl rfl) (oy rfl rfl) (fun _ g => loadsAt (tyD K hKd.1) (rangeAt_row (row_of g HB20_80 (by simp)))) (fun _ => rfl), ox_bin rfl rfl (gy rfl rfl rfl) (oy rfl rfl) (oy rfl rfl) (fun _ => by simpa using (dig_eqb hKd hKd _ _ _).2) (fun _ => rfl), ox_pick rfl rfl trivial (oy rfl rfl) (oy rfl rfl) (fun _ => rfl), xm rfl rfl rfl rfl rfl, ox_load rfl rfl (gy rfl rfl rfl) (oy rfl rfl) (fun _ g => loadsAt (tyD K hKd.1) (rangeAt_row (row_of g HB18_75 (by simp)))) (fun _ => rfl), ox_load rfl rfl (gy rfl rfl rfl) (oy rfl rfl) (fun _ g => loadsAt (tyD K hKd.1) (rangeAt_row (row_of g HB22_85 (by simp)))) (fun _ => rfl), ox_bin rfl rfl (gy rfl rfl rfl) (oy rfl rfl) (oy rfl rfl) (fun _ => by simpa using (dig_eqb hKd hKd _ _ _).2) (fun _ => rfl), ox_pick rfl rfl trivial (oy rfl rfl) (oy rfl rfl) (fun _ => rfl), trivial⟩ fun a90 w90 g90 st90 => ?_
        obtain ⟨hn90, hd90, e90_103, e90_104, e90_105, e90_106, e90_107, e90_108, e90_109, e90_110, e90_111, e90_112, e90_113, e90_114, e90_115, e90_116, e90_117, e90_118, e90_119, e90_120, e90_121, e90_122, e90_23, e90_21, e90_19, e90_17, e90_16, e90_15, e90_14, e90_12, e90_8, e90_7, e90_1, e90_2, e90_31, e90_11, e90_13, e90_63, e90_65, e90_69, e90_18, e90_20, e90_22, -⟩ := st90
        replace HB3_2 := rw_kn g90 HB3_2
        replace HB7_7 := rw_kn g90 HB7_7
        replace HB11_37 := rw_kn g90 HB11_37
        replace HB13_43 := rw_kn g90 HB13_43
        replace HB18_75 := rw_kn g90 HB18_75
        replace HB20_80 := rw_kn g90 HB20_80
        replace HB22_85 := rw_kn g90 HB22_85
        replace hr := hr.kn g90
        replace hk38 := hk38.kn g90
        replace hk44 := hk44.kn g90
        replace HG := grown_trans HG g90
        have sv90 : Sv 148 [] [(23, .int .i64 0), (21, .int .i64 0), (19, .int .i64 0), (17, .int .i64 N), (16, .int .i64 ((k2 : Int))), (15, .int .i64 (((2 * p : Nat) : Int))), (14, .int .i64 0), (12, .int .i64 0), (8, .int .i64 (((3 : Nat) : Int))), (7, .pointer (some ⟨B7_7, 0, none⟩)), (1, .int .i64 xa), (2, .int .i64 xb), (31, .bool false), (11, .pointer (some ⟨B11_37, 0, none⟩)), (13, .pointer (some ⟨B13_43, 0, none⟩)), (63, .bool false), (65, .bool true), (69, .bool true), (18, .pointer (some ⟨B18_75, 0, none⟩)), (20, .pointer (some ⟨B20_80, 0, none⟩)), (22, .pointer (some ⟨B22_85, 0, none⟩)), (122, .bool false)] a90 := ⟨hn90, hd90, e90_23, e90_21, e90_19, e90_17, e90_16, e90_15, e90_14, e90_12, e90_8, e90_7, e90_1, e90_2, e90_31, e90_11, e90_13, e90_63, e90_65, e90_69, e90_18, e90_20, e90_22, e90_122, trivial⟩
        refine tl_nil ?_
        refine k89 _ _ ?_
        refine cx_ifF sv90 rfl rfl ?_
        refine wp_skip ?_
        refine y69 _ _ ?_
        refine k68 _ _ ?_
        refine wp_region_lit ?_
        refine sx_head (sv90.st w90) 2 [(70, Sp.is (.int .i64 ((k2 : Int)))), (71, Sp.is (.int .i64 (((k2 + 1 : Nat) : Int))))] rfl (by kernel_rfl) (by kernel_rfl) (by kernel_rfl)
          ⟨xm rfl rfl rfl rfl rfl, ox_bin rfl rfl trivial (oy rfl rfl) rfl (fun _ => rn_add (by rw [wrap_i64 (by omega) (by omega)]; omega)) (fun _ => rfl), trivial⟩ fun a91 w91 g91 st91 => ?_
        obtain ⟨hn91, hd91, e91_70, e91_71, e91_23, e91_21, e91_19, e91_17, e91_16, e91_15, e91_14, e91_12, e91_8, e91_7, e91_1, e91_2, e91_31, e91_11, e91_13, e91_63, e91_65, e91_69, e91_18, e91_20, e91_22, e91_122, -⟩ := st91
        replace HB3_2 := rw_kn g91 HB3_2
        replace HB7_7 := rw_kn g91 HB7_7
        replace HB11_37 := rw_kn g91 HB11_37
        replace HB13_43 := rw_kn g91 HB13_43
        replace HB18_75 := rw_kn g91 HB18_75
        replace HB20_80 := rw_kn g91 HB20_80
        replace HB22_85 := rw_kn g91 HB22_85
        replace hr := hr.kn g91
        replace hk38 := hk38.kn g91
        replace hk44 := hk44.kn g91
        replace HG := grown_trans HG g91
        have sv91 : Sv 148 [] [(23, .int .i64 0), (21, .int .i64 0), (19, .int .i64 0), (17, .int .i64 N), (16, .int .i64 ((k2 : Int))), (15, .int .i64 (((2 * p : Nat) : Int))), (14, .int .i64 0), (12, .int .i64 0), (8, .int .i64 (((3 : Nat) : Int))), (7, .pointer (some ⟨B7_7, 0, none⟩)), (1, .int .i64 xa), (2, .int .i64 xb), (31, .bool false), (11, .pointer (some ⟨B11_37, 0, none⟩)), (13, .pointer (some ⟨B13_43, 0, none⟩)), (63, .bool false), (65, .bool true), (69, .bool true), (18, .pointer (some ⟨B18_75, 0, none⟩)), (20, .pointer (some ⟨B20_80, 0, none⟩)), (22, .pointer (some ⟨B22_85, 0, none⟩)), (122, .bool false), (71, .int .i64 (((k2 + 1 : Nat) : Int)))] a91 := ⟨hn91, hd91, e91_23, e91_21, e91_19, e91_17, e91_16, e91_15, e91_14, e91_12, e91_8, e91_7, e91_1, e91_2, e91_31, e91_11, e91_13, e91_63, e91_65, e91_69, e91_18, e91_20, e91_22, e91_122, e91_71, trivial⟩
        refine tl_assign sv91 rfl (.inl rfl) rfl rfl rfl rfl fun a92 sv92 => ?_
        replace sv92 : Sv 148 [] [(16, .int .i64 (((k2 + 1 : Nat) : Int))), (23, .int .i64 0), (21, .int .i64 0), (19, .int .i64 0), (17, .int .i64 N), (15, .int .i64 (((2 * p : Nat) : Int))), (14, .int .i64 0), (12, .int .i64 0), (8, .int .i64 (((3 : Nat) : Int))), (7, .pointer (some ⟨B7_7, 0, none⟩)), (1, .int .i64 xa), (2, .int .i64 xb), (31, .bool false), (11, .pointer (some ⟨B11_37, 0, none⟩)), (13, .pointer (some ⟨B13_43, 0, none⟩)), (63, .bool false), (65, .bool true), (69, .bool true), (18, .pointer (some ⟨B18_75, 0, none⟩)), (20, .pointer (some ⟨B20_80, 0, none⟩)), (22, .pointer (some ⟨B22_85, 0, none⟩)), (122, .bool false), (71, .int .i64 (((k2 + 1 : Nat) : Int)))] a92 := sv92
        have sv93 : Sv 148 [] [(16, .int .i64 (((k2 + 1 : Nat) : Int))), (23, .int .i64 0), (21, .int .i64 0), (19, .int .i64 0), (17, .int .i64 N), (15, .int .i64 (((2 * p : Nat) : Int))), (14, .int .i64 0), (12, .int .i64 0), (8, .int .i64 (((3 : Nat) : Int))), (7, .pointer (some ⟨B7_7, 0, none⟩)), (1, .int .i64 xa), (2, .int .i64 xb), (31, .bool false), (11, .pointer (some ⟨B11_37, 0, none⟩)), (13, .pointer (some ⟨B13_43, 0, none⟩)), (63, .bool false), (65, .bool true), (69, .bool true), (18, .pointer (some ⟨B18_75, 0, none⟩)), (20, .pointer (some ⟨B20_80, 0, none⟩)), (22, .pointer (some ⟨B22_85, 0, none⟩)), (122, .bool false)] a92 := ⟨sv92.1, sv92.2.1, sv92.2.2.1, sv92.2.2.2.1, sv92.2.2.2.2.1, sv92.2.2.2.2.2.1, sv92.2.2.2.2.2.2.1, sv92.2.2.2.2.2.2.2.1, sv92.2.2.2.2.2.2.2.2.1, sv92.2.2.2.2.2.2.2.2.2.1, sv92.2.2.2.2.2.2.2.2.2.2.1, sv92.2.2.2.2.2.2.2.2.2.2.2.1, sv92.2.2.2.2.2.2.2.2.2.2.2.2.1, sv92.2.2.2.2.2.2.2.2.2.2.2.2.2.1, sv92.2.2.2.2.2.2.2.2.2.2.2.2.2.2.1, sv92.2.2.2.2.2.2.2.2.2.2.2.2.2.2.2.1, sv92.2.2.2.2.2.2.2.2.2.2.2.2.2.2.2.2.1, sv92.2.2.2.2.2.2.2.2.2.2.2.2.2.2.2.2.2.1, sv92.2.2.2.2.2.2.2.2.2.2.2.2.2.2.2.2.2.2.1, sv92.2.2.2.2.2.2.2.2.2.2.2.2.2.2.2.2.2.2.2.1, sv92.2.2.2.2.2.2.2.2.2.2.2.2.2.2.2.2.2.2.2.2.1, sv92.2.2.2.2.2.2.2.2.2.2.2.2.2.2.2.2.2.2.2.2.2.1, sv92.2.2.2.2.2.2.2.2.2.2.2.2.2.2.2.2.2.2.2.2.2.2.1, sv92.2.2.2.2.2.2.2.2.2.2.2.2.2.2.2.2.2.2.2.2.2.2.2.1, trivial⟩
        refine tl_nil ?_
        exact ⟨⟨k2 + 1, by omega, ⟨sv93.1, sv93.2.1, sv93.2.2.1, sv93.2.2.2.2.2.2.2.1, sv93.2.2.2.2.2.2.2.2.1, sv93.2.2.2.2.2.2.2.2.2.1, sv93.2.2.2.2.2.2.2.2.2.2.1, sv93.2.2.2.2.2.2.2.2.2.2.2.1, sv93.2.2.2.2.2.2.2.2.2.2.2.2.1, sv93.2.2.2.2.2.2.2.2.2.2.2.2.2.1, sv93.2.2.2.2.2.2.2.2.2.2.2.2.2.2.1, sv93.2.2.2.2.2.2.2.2.2.2.2.2.2.2.2.1, sv93.2.2.2.2.2.2.2.2.2.2.2.2.2.2.2.2.1, sv93.2.2.2.2.2.2.2.2.2.2.2.2.2.2.2.2.2.1, sv93.2.2.2.2.2.2.2.2.2.2.2.2.2.2.2.2.2.2.1, trivial⟩, HG, HB3_2, HB7_7, HB11_37, HB13_43, hr, hk38, hk44⟩, by rw [show _ = _ from sv93.2.2.1, show _ = _ from sv64.2.2.1]; simp [intOf]; omega⟩
      · refine wp_region_lit ?_
        refine sx_head (sv64.st w64) 2 [(68, Sp.is (.int .i64 ((k2 : Int)))), (69, Sp.is (.bool false))] rfl (by kernel_rfl) (by kernel_rfl) (by kernel_rfl)
          ⟨xm rfl rfl rfl rfl rfl, ox_bin rfl rfl trivial (oy rfl rfl) rfl (fun _ => rn_lss (decide_eq_false (by omega))) (fun _ => rfl), trivial⟩ fun a94 w94 g94 st94 => ?_
        obtain ⟨hn94, hd94, e94_68, e94_69, e94_16, e94_15, e94_14, e94_12, e94_8, e94_7, e94_1, e94_2, e94_31, e94_11, e94_13, e94_63, e94_65, -⟩ := st94
        replace HB3_2 := rw_kn g94 HB3_2
        replace HB7_7 := rw_kn g94 HB7_7
        replace HB11_37 := rw_kn g94 HB11_37
        replace HB13_43 := rw_kn g94 HB13_43
        replace hr := hr.kn g94
        replace hk38 := hk38.kn g94
        replace hk44 := hk44.kn g94
        replace HG := grown_trans HG g94
        have sv94 : Sv 148 [] [(16, .int .i64 ((k2 : Int))), (15, .int .i64 (((2 * p : Nat) : Int))), (14, .int .i64 0), (12, .int .i64 0), (8, .int .i64 (((3 : Nat) : Int))), (7, .pointer (some ⟨B7_7, 0, none⟩)), (1, .int .i64 xa), (2, .int .i64 xb), (31, .bool false), (11, .pointer (some ⟨B11_37, 0, none⟩)), (13, .pointer (some ⟨B13_43, 0, none⟩)), (63, .bool false), (65, .bool true), (69, .bool false)] a94 := ⟨hn94, hd94, e94_16, e94_15, e94_14, e94_12, e94_8, e94_7, e94_1, e94_2, e94_31, e94_11, e94_13, e94_63, e94_65, e94_69, trivial⟩
        refine tl_nil ?_
        refine k66 _ _ ?_
        refine cx_ifF sv94 rfl rfl ?_
        refine wp_exit ?_
        repeat refine then_exit ?_
        refine x63 _ _ ?_
        refine y60 _ _ ?_
        refine k59 _ _ ?_
        refine wp_region_lit ?_
        refine sx_head (sv94.st w94) 2 [(66, Sp.is (.int .i64 (((2 * p : Nat) : Int)))), (67, Sp.is (.int .i64 (((2 * (p + 1) : Nat) : Int))))] rfl (by kernel_rfl) (by kernel_rfl) (by kernel_rfl)
          ⟨xm rfl rfl rfl rfl rfl, ox_bin rfl rfl trivial (oy rfl rfl) rfl (fun _ => rn_add (by rw [wrap_i64 (by omega) (by omega)]; omega)) (fun _ => rfl), trivial⟩ fun a95 w95 g95 st95 => ?_
        obtain ⟨hn95, hd95, e95_66, e95_67, e95_16, e95_15, e95_14, e95_12, e95_8, e95_7, e95_1, e95_2, e95_31, e95_11, e95_13, e95_63, e95_65, e95_69, -⟩ := st95
        replace HB3_2 := rw_kn g95 HB3_2
        replace HB7_7 := rw_kn g95 HB7_7
        replace HB11_37 := rw_kn g95 HB11_37
        replace HB13_43 := rw_kn g95 HB13_43
        replace hr := hr.kn g95
        replace hk38 := hk38.kn g95
        replace hk44 := hk44.kn g95
        replace HG := grown_trans HG g95
        have sv95 : Sv 148 [] [(16, .int .i64 ((k2 : Int))), (15, .int .i64 (((2 * p : Nat) : Int))), (14, .int .i64 0), (12, .int .i64 0), (8, .int .i64 (((3 : Nat) : Int))), (7, .pointer (some ⟨B7_7, 0, none⟩)), (1, .int .i64 xa), (2, .int .i64 xb), (31, .bool false), (11, .pointer (some ⟨B11_37, 0, none⟩)), (13, .pointer (some ⟨B13_43, 0, none⟩)), (63, .bool false), (65, .bool true), (69, .bool false), (67, .int .i64 (((2 * (p + 1) : Nat) : Int)))] a95 := ⟨hn95, hd95, e95_16, e95_15, e95_14, e95_12, e95_8, e95_7, e95_1, e95_2, e95_31, e95_11, e95_13, e95_63, e95_65, e95_69, e95_67, trivial⟩
        refine tl_assign sv95 rfl (.inl rfl) rfl rfl rfl rfl fun a96 sv96 => ?_
        replace sv96 : Sv 148 [] [(15, .int .i64 (((2 * (p + 1) : Nat) : Int))), (16, .int .i64 ((k2 : Int))), (14, .int .i64 0), (12, .int .i64 0), (8, .int .i64 (((3 : Nat) : Int))), (7, .pointer (some ⟨B7_7, 0, none⟩)), (1, .int .i64 xa), (2, .int .i64 xb), (31, .bool false), (11, .pointer (some ⟨B11_37, 0, none⟩)), (13, .pointer (some ⟨B13_43, 0, none⟩)), (63, .bool false), (65, .bool true), (69, .bool false), (67, .int .i64 (((2 * (p + 1) : Nat) : Int)))] a96 := sv96
        have sv97 : Sv 148 [] [(15, .int .i64 (((2 * (p + 1) : Nat) : Int))), (16, .int .i64 ((k2 : Int))), (14, .int .i64 0), (12, .int .i64 0), (8, .int .i64 (((3 : Nat) : Int))), (7, .pointer (some ⟨B7_7, 0, none⟩)), (1, .int .i64 xa), (2, .int .i64 xb), (31, .bool false), (11, .pointer (some ⟨B11_37, 0, none⟩)), (13, .pointer (some ⟨B13_43, 0, none⟩)), (63, .bool false), (65, .bool true), (69, .bool false)] a96 := ⟨sv96.1, sv96.2.1, sv96.2.2.1, sv96.2.2.2.1, sv96.2.2.2.2.1, sv96.2.2.2.2.2.1, sv96.2.2.2.2.2.2.1, sv96.2.2.2.2.2.2.2.1, sv96.2.2.2.2.2.2.2.2.1, sv96.2.2.2.2.2.2.2.2.2.1, sv96.2.2.2.2.2.2.2.2.2.2.1, sv96.2.2.2.2.2.2.2.2.2.2.2.1, sv96.2.2.2.2.2.2.2.2.2.2.2.2.1, sv96.2.2.2.2.2.2.2.2.2.2.2.2.2.1, sv96.2.2.2.2.2.2.2.2.2.2.2.2.2.2.1, sv96.2.2.2.2.2.2.2.2.2.2.2.2.2.2.2.1, trivial⟩
        refine tl_nil ?_
        exact ⟨⟨p + 1, by omega, ⟨sv97.1, sv97.2.1, sv97.2.2.1, sv97.2.2.2.2.1, sv97.2.2.2.2.2.1, sv97.2.2.2.2.2.2.1, sv97.2.2.2.2.2.2.2.1, sv97.2.2.2.2.2.2.2.2.1, sv97.2.2.2.2.2.2.2.2.2.1, sv97.2.2.2.2.2.2.2.2.2.2.1, sv97.2.2.2.2.2.2.2.2.2.2.2.1, sv97.2.2.2.2.2.2.2.2.2.2.2.2.1, sv97.2.2.2.2.2.2.2.2.2.2.2.2.2.1, trivial⟩, HG, HB3_2, HB7_7, HB11_37, HB13_43, hr, hk38, hk44⟩, by rw [show _ = _ from sv97.2.2.1, show _ = _ from sv55.2.2.1]; simp [intOf]; omega⟩
    · refine wp_region_lit ?_
      refine sx_head (sv55.st w55) 2 [(64, Sp.is (.int .i64 (((2 * p : Nat) : Int)))), (65, Sp.is (.bool false))] rfl (by kernel_rfl) (by kernel_rfl) (by kernel_rfl)
        ⟨xm rfl rfl rfl rfl rfl, ox_bin rfl rfl trivial (oy rfl rfl) rfl (fun _ => rn_lss (decide_eq_false (by omega))) (fun _ => rfl), trivial⟩ fun a98 w98 g98 st98 => ?_
      obtain ⟨hn98, hd98, e98_64, e98_65, e98_15, e98_14, e98_12, e98_8, e98_7, e98_1, e98_2, e98_31, e98_11, e98_13, e98_63, -⟩ := st98
      replace HB3_2 := rw_kn g98 HB3_2
      replace HB7_7 := rw_kn g98 HB7_7
      replace HB11_37 := rw_kn g98 HB11_37
      replace HB13_43 := rw_kn g98 HB13_43
      replace hr := hr.kn g98
      replace hk38 := hk38.kn g98
      replace hk44 := hk44.kn g98
      replace HG := grown_trans HG g98
      have sv98 : Sv 148 [] [(15, .int .i64 (((2 * p : Nat) : Int))), (14, .int .i64 0), (12, .int .i64 0), (8, .int .i64 (((3 : Nat) : Int))), (7, .pointer (some ⟨B7_7, 0, none⟩)), (1, .int .i64 xa), (2, .int .i64 xb), (31, .bool false), (11, .pointer (some ⟨B11_37, 0, none⟩)), (13, .pointer (some ⟨B13_43, 0, none⟩)), (63, .bool false), (65, .bool false)] a98 := ⟨hn98, hd98, e98_15, e98_14, e98_12, e98_8, e98_7, e98_1, e98_2, e98_31, e98_11, e98_13, e98_63, e98_65, trivial⟩
      refine tl_nil ?_
      refine k57 _ _ ?_
      refine cx_ifF sv98 rfl rfl ?_
      refine wp_exit ?_
      repeat refine then_exit ?_
      refine x54 _ _ ?_
      refine k51 _ _ ?_
      refine wp_seq_k fun K99 k99 => ?_
      refine rx_tail (sv98.st w98) (by kernel_rfl) 9 [(124, Sp.is (vval sa ((pj seed 3)) (.slice ao38 ks38.length cap38))), (125, Sp.is (dval ((ow 1)))), (126, Sp.is (.int .i64 xa)), (127, Sp.is (.int .i64 A)), (128, Sp.is (.tuple #[dval zero32, .int .i64 10])), (123, Sp.is (.tuple #[dval zero32, .int .i64 10])), (129, Sp.is (dval zero32)), (130, Sp.is (.int .i64 10)), (24, Sp.new w98.heap.size ((bv zero32)) 29)] rfl (by kernel_rfl) (by kernel_rfl) (by kernel_rfl) [7] (by kernel_rfl)
        ⟨xl rfl rfl rfl rfl rfl (tyVa hsa (pj_dg seed 3) (.slice ao38 ks38.length cap38) rfl) HB11_37 rfl, ox_call (Sp.is (dval ((ow 1)))) [.int .i64 1] rfl rfl trivial ⟨rfl, trivial⟩ (is_on fun W g => owner_c (j := 1) rfl W) (fun _ _ h => h) (enter_of Try.func51 (by kernel_rfl) rfl), xm rfl rfl rfl rfl rfl, ox_call (Sp.is (.int .i64 A)) [.int .i64 xa] rfl rfl trivial ⟨(oy rfl rfl), trivial⟩ (is_on fun W g => hA ▸ adr_c _ W) (fun _ _ h => h) (enter_of Try.func30 (by kernel_rfl) rfl), ox_call (Sp.is (.tuple #[dval zero32, .int .i64 10])) [vval sa ((pj seed 3)) (.slice ao38 ks38.length cap38), dval ((ow 1)), .int .i64 A] rfl rfl trivial ⟨(oy rfl rfl), (oy rfl rfl), (oy rfl rfl), trivial⟩ (is_on fun W g => key_B (q := (zero32, 10)) hsa (pj_dg seed 3) (ow_dg _) (hk38.kn g) hp38 (keyO_tr hAa hS.1 (hS.2 1 (by omega)) (leaf_gone ht1 hAa))) (fun _ _ h => h) (enter_of Try.func39 (by kernel_rfl) rfl), xm rfl rfl rfl rfl rfl, ox_extract rfl rfl rfl trivial (fun _ _ h => ⟨_, _, h, rfl, rfl⟩), ox_extract rfl rfl rfl trivial (fun _ _ h => ⟨_, _, h, rfl, rfl⟩), ox_alloc rfl trivial (Nat.le_refl _) (fun a w => by kernel_rfl) (fun _ _ h => h), trivial⟩ ⟨fun o ho => by obtain rfl := Option.some.inj ho; exact px_extract rfl rfl rfl trivial (fun _ _ h => ⟨_, _, h, rfl, rfl⟩), trivial⟩
        [24] (by kernel_rfl) ⟨Sp.new_lt, trivial⟩ ⟨.inl rfl, .inl rfl, .inl rfl, .inl rfl, .inl rfl, .inl rfl, .inl rfl, .inl rfl, .inr ⟨rfl, ((bv zero32)).toArray, 29, fun a w => by kernel_rfl⟩, trivial⟩ (by kernel_rfl) fun a100 w100 g100 st100 nd100 => ?_
      obtain ⟨hn100, hd100, e100_124, e100_125, e100_126, e100_127, e100_128, e100_123, e100_129, e100_130, e100_24, e100_15, e100_14, e100_12, e100_8, e100_7, e100_1, e100_2, e100_31, e100_11, e100_13, e100_63, e100_65, -⟩ := st100
      obtain ⟨B24_100, e100_24q, ge_B24_100, HB24_100⟩ := e100_24
      have ne_B24_100_B3_2 := nh_ne HB3_2 ge_B24_100
      have ne_B24_100_B7_7 := nh_ne HB7_7 ge_B24_100
      have ne_B24_100_B11_37 := nh_ne HB11_37 ge_B24_100
      have ne_B24_100_B13_43 := nh_ne HB13_43 ge_B24_100
      have lo_B24_100 := nh_lo HG ge_B24_100
      have ap_hr_B24_100 := nh_ap (hr.lt) ge_B24_100
      have ap_hk38_B24_100 := nh_ap (hk38.lt) ge_B24_100
      have ap_hk44_B24_100 := nh_ap (hk44.lt) ge_B24_100
      replace HB3_2 := rw_kn g100 HB3_2
      replace HB7_7 := rw_kn g100 HB7_7
      replace HB11_37 := rw_kn g100 HB11_37
      replace HB13_43 := rw_kn g100 HB13_43
      replace hr := hr.kn g100
      replace hk38 := hk38.kn g100
      replace hk44 := hk44.kn g100
      replace HG := grown_trans HG g100
      have sv100 : Sv 148 [] [(15, .int .i64 (((2 * p : Nat) : Int))), (14, .int .i64 0), (12, .int .i64 0), (8, .int .i64 (((3 : Nat) : Int))), (7, .pointer (some ⟨B7_7, 0, none⟩)), (1, .int .i64 xa), (2, .int .i64 xb), (31, .bool false), (11, .pointer (some ⟨B11_37, 0, none⟩)), (13, .pointer (some ⟨B13_43, 0, none⟩)), (63, .bool false), (65, .bool false), (129, dval zero32), (130, .int .i64 10), (24, .pointer (some ⟨B24_100, 0, none⟩))] a100 := ⟨hn100, hd100, e100_15, e100_14, e100_12, e100_8, e100_7, e100_1, e100_2, e100_31, e100_11, e100_13, e100_63, e100_65, e100_129, e100_130, e100_24q, trivial⟩
      refine tl_storeW sv100 rfl rfl rfl rfl rfl rfl rfl (tyD zero32 zero32_dg.1) HB24_100 (lenD zero32_dg) fun w101 g101 h101 => ?_
      replace HB3_2 := rw_st g101 HB3_2 (Ne.symm ne_B24_100_B3_2)
      replace HB7_7 := rw_st g101 HB7_7 (Ne.symm ne_B24_100_B7_7)
      replace HB11_37 := rw_st g101 HB11_37 (Ne.symm ne_B24_100_B11_37)
      replace HB13_43 := rw_st g101 HB13_43 (Ne.symm ne_B24_100_B13_43)
      replace hr := hr.offR g101 (fun k hk e => ap_hr_B24_100 k hk (Option.some.inj e).symm)
      replace hk38 := hk38.offR g101 (fun k hk e => ap_hk38_B24_100 k hk (Option.some.inj e).symm)
      replace hk44 := hk44.offR g101 (fun k hk e => ap_hk44_B24_100 k hk (Option.some.inj e).symm)
      replace HG := grown_newR HG g101 lo_B24_100
      replace HB24_100 := h101
      refine tl_assign sv100 rfl (.inl rfl) rfl rfl rfl rfl fun a102 sv102 => ?_
      replace sv102 : Sv 148 [] [(25, .int .i64 10), (15, .int .i64 (((2 * p : Nat) : Int))), (14, .int .i64 0), (12, .int .i64 0), (8, .int .i64 (((3 : Nat) : Int))), (7, .pointer (some ⟨B7_7, 0, none⟩)), (1, .int .i64 xa), (2, .int .i64 xb), (31, .bool false), (11, .pointer (some ⟨B11_37, 0, none⟩)), (13, .pointer (some ⟨B13_43, 0, none⟩)), (63, .bool false), (65, .bool false), (129, dval zero32), (130, .int .i64 10), (24, .pointer (some ⟨B24_100, 0, none⟩))] a102 := sv102
      have sv103 : Sv 148 [] [(25, .int .i64 10), (15, .int .i64 (((2 * p : Nat) : Int))), (14, .int .i64 0), (12, .int .i64 0), (8, .int .i64 (((3 : Nat) : Int))), (7, .pointer (some ⟨B7_7, 0, none⟩)), (1, .int .i64 xa), (2, .int .i64 xb), (31, .bool false), (11, .pointer (some ⟨B11_37, 0, none⟩)), (13, .pointer (some ⟨B13_43, 0, none⟩)), (63, .bool false), (65, .bool false)] a102 := ⟨sv102.1, sv102.2.1, sv102.2.2.1, sv102.2.2.2.1, sv102.2.2.2.2.1, sv102.2.2.2.2.2.1, sv102.2.2.2.2.2.2.1, sv102.2.2.2.2.2.2.2.1, sv102.2.2.2.2.2.2.2.2.1, sv102.2.2.2.2.2.2.2.2.2.1, sv102.2.2.2.2.2.2.2.2.2.2.1, sv102.2.2.2.2.2.2.2.2.2.2.2.1, sv102.2.2.2.2.2.2.2.2.2.2.2.2.1, sv102.2.2.2.2.2.2.2.2.2.2.2.2.2.1, sv102.2.2.2.2.2.2.2.2.2.2.2.2.2.2.1, trivial⟩
      refine tl_nil ?_
      refine k99 _ _ ?_
      refine wp_seq_k fun K104 k104 => ?_
      refine rx_tail (sv103.st w101) (by kernel_rfl) 9 [(132, Sp.is (vval sa ((pj seed 3)) (.slice ao44 ks44.length cap44))), (133, Sp.is (dval ((ow 1)))), (134, Sp.is (.int .i64 xb)), (135, Sp.is (.int .i64 B)), (136, Sp.is (.tuple #[dval zero32, .int .i64 10])), (131, Sp.is (.tuple #[dval zero32, .int .i64 10])), (137, Sp.is (dval zero32)), (138, Sp.is (.int .i64 10)), (26, Sp.new w101.heap.size ((bv zero32)) 29)] rfl (by kernel_rfl) (by kernel_rfl) (by kernel_rfl) [7] (by kernel_rfl)
        ⟨xl rfl rfl rfl rfl rfl (tyVa hsa (pj_dg seed 3) (.slice ao44 ks44.length cap44) rfl) HB13_43 rfl, ox_call (Sp.is (dval ((ow 1)))) [.int .i64 1] rfl rfl trivial ⟨rfl, trivial⟩ (is_on fun W g => owner_c (j := 1) rfl W) (fun _ _ h => h) (enter_of Try.func51 (by kernel_rfl) rfl), xm rfl rfl rfl rfl rfl, ox_call (Sp.is (.int .i64 B)) [.int .i64 xb] rfl rfl trivial ⟨(oy rfl rfl), trivial⟩ (is_on fun W g => hB ▸ adr_c _ W) (fun _ _ h => h) (enter_of Try.func30 (by kernel_rfl) rfl), ox_call (Sp.is (.tuple #[dval zero32, .int .i64 10])) [vval sa ((pj seed 3)) (.slice ao44 ks44.length cap44), dval ((ow 1)), .int .i64 B] rfl rfl trivial ⟨(oy rfl rfl), (oy rfl rfl), (oy rfl rfl), trivial⟩ (is_on fun W g => key_B (q := (zero32, 10)) hsa (pj_dg seed 3) (ow_dg _) (hk44.kn g) hp44 (keyO_gone hBa hD.1 hD.2.1)) (fun _ _ h => h) (enter_of Try.func39 (by kernel_rfl) rfl), xm rfl rfl rfl rfl rfl, ox_extract rfl rfl rfl trivial (fun _ _ h => ⟨_, _, h, rfl, rfl⟩), ox_extract rfl rfl rfl trivial (fun _ _ h => ⟨_, _, h, rfl, rfl⟩), ox_alloc rfl trivial (Nat.le_refl _) (fun a w => by kernel_rfl) (fun _ _ h => h), trivial⟩ ⟨fun o ho => by obtain rfl := Option.some.inj ho; exact px_extract rfl rfl rfl trivial (fun _ _ h => ⟨_, _, h, rfl, rfl⟩), trivial⟩
        [26] (by kernel_rfl) ⟨Sp.new_lt, trivial⟩ ⟨.inl rfl, .inl rfl, .inl rfl, .inl rfl, .inl rfl, .inl rfl, .inl rfl, .inl rfl, .inr ⟨rfl, ((bv zero32)).toArray, 29, fun a w => by kernel_rfl⟩, trivial⟩ (by kernel_rfl) fun a105 w105 g105 st105 nd105 => ?_
      obtain ⟨hn105, hd105, e105_132, e105_133, e105_134, e105_135, e105_136, e105_131, e105_137, e105_138, e105_26, e105_25, e105_15, e105_14, e105_12, e105_8, e105_7, e105_1, e105_2, e105_31, e105_11, e105_13, e105_63, e105_65, -⟩ := st105
      obtain ⟨B26_105, e105_26q, ge_B26_105, HB26_105⟩ := e105_26
      have ne_B26_105_B3_2 := nh_ne HB3_2 ge_B26_105
      have ne_B26_105_B7_7 := nh_ne HB7_7 ge_B26_105
      have ne_B26_105_B11_37 := nh_ne HB11_37 ge_B26_105
      have ne_B26_105_B13_43 := nh_ne HB13_43 ge_B26_105
      have ne_B26_105_B24_100 := nh_ne HB24_100 ge_B26_105
      have lo_B26_105 := nh_lo HG ge_B26_105
      have ap_hr_B26_105 := nh_ap (hr.lt) ge_B26_105
      have ap_hk38_B26_105 := nh_ap (hk38.lt) ge_B26_105
      have ap_hk44_B26_105 := nh_ap (hk44.lt) ge_B26_105
      replace HB3_2 := rw_kn g105 HB3_2
      replace HB7_7 := rw_kn g105 HB7_7
      replace HB11_37 := rw_kn g105 HB11_37
      replace HB13_43 := rw_kn g105 HB13_43
      replace HB24_100 := rw_kn g105 HB24_100
      replace hr := hr.kn g105
      replace hk38 := hk38.kn g105
      replace hk44 := hk44.kn g105
      replace HG := grown_trans HG g105
      have sv105 : Sv 148 [] [(25, .int .i64 10), (15, .int .i64 (((2 * p : Nat) : Int))), (14, .int .i64 0), (12, .int .i64 0), (8, .int .i64 (((3 : Nat) : Int))), (7, .pointer (some ⟨B7_7, 0, none⟩)), (1, .int .i64 xa), (2, .int .i64 xb), (31, .bool false), (11, .pointer (some ⟨B11_37, 0, none⟩)), (13, .pointer (some ⟨B13_43, 0, none⟩)), (63, .bool false), (65, .bool false), (137, dval zero32), (138, .int .i64 10), (26, .pointer (some ⟨B26_105, 0, none⟩))] a105 := ⟨hn105, hd105, e105_25, e105_15, e105_14, e105_12, e105_8, e105_7, e105_1, e105_2, e105_31, e105_11, e105_13, e105_63, e105_65, e105_137, e105_138, e105_26q, trivial⟩
      refine tl_storeW sv105 rfl rfl rfl rfl rfl rfl rfl (tyD zero32 zero32_dg.1) HB26_105 (lenD zero32_dg) fun w106 g106 h106 => ?_
      replace HB3_2 := rw_st g106 HB3_2 (Ne.symm ne_B26_105_B3_2)
      replace HB7_7 := rw_st g106 HB7_7 (Ne.symm ne_B26_105_B7_7)
      replace HB11_37 := rw_st g106 HB11_37 (Ne.symm ne_B26_105_B11_37)
      replace HB13_43 := rw_st g106 HB13_43 (Ne.symm ne_B26_105_B13_43)
      replace HB24_100 := rw_st g106 HB24_100 (Ne.symm ne_B26_105_B24_100)
      replace hr := hr.offR g106 (fun k hk e => ap_hr_B26_105 k hk (Option.some.inj e).symm)
      replace hk38 := hk38.offR g106 (fun k hk e => ap_hk38_B26_105 k hk (Option.some.inj e).symm)
      replace hk44 := hk44.offR g106 (fun k hk e => ap_hk44_B26_105 k hk (Option.some.inj e).symm)
      replace HG := grown_newR HG g106 lo_B26_105
      replace HB26_105 := h106
      refine tl_assign sv105 rfl (.inl rfl) rfl rfl rfl rfl fun a107 sv107 => ?_
      replace sv107 : Sv 148 [] [(27, .int .i64 10), (25, .int .i64 10), (15, .int .i64 (((2 * p : Nat) : Int))), (14, .int .i64 0), (12, .int .i64 0), (8, .int .i64 (((3 : Nat) : Int))), (7, .pointer (some ⟨B7_7, 0, none⟩)), (1, .int .i64 xa), (2, .int .i64 xb), (31, .bool false), (11, .pointer (some ⟨B11_37, 0, none⟩)), (13, .pointer (some ⟨B13_43, 0, none⟩)), (63, .bool false), (65, .bool false), (137, dval zero32), (138, .int .i64 10), (26, .pointer (some ⟨B26_105, 0, none⟩))] a107 := sv107
      have sv108 : Sv 148 [] [(27, .int .i64 10), (25, .int .i64 10), (15, .int .i64 (((2 * p : Nat) : Int))), (14, .int .i64 0), (12, .int .i64 0), (8, .int .i64 (((3 : Nat) : Int))), (7, .pointer (some ⟨B7_7, 0, none⟩)), (1, .int .i64 xa), (2, .int .i64 xb), (31, .bool false), (11, .pointer (some ⟨B11_37, 0, none⟩)), (13, .pointer (some ⟨B13_43, 0, none⟩)), (63, .bool false), (65, .bool false)] a107 := ⟨sv107.1, sv107.2.1, sv107.2.2.1, sv107.2.2.2.1, sv107.2.2.2.2.1, sv107.2.2.2.2.2.1, sv107.2.2.2.2.2.2.1, sv107.2.2.2.2.2.2.2.1, sv107.2.2.2.2.2.2.2.2.1, sv107.2.2.2.2.2.2.2.2.2.1, sv107.2.2.2.2.2.2.2.2.2.2.1, sv107.2.2.2.2.2.2.2.2.2.2.2.1, sv107.2.2.2.2.2.2.2.2.2.2.2.2.1, sv107.2.2.2.2.2.2.2.2.2.2.2.2.2.1, sv107.2.2.2.2.2.2.2.2.2.2.2.2.2.2.1, sv107.2.2.2.2.2.2.2.2.2.2.2.2.2.2.2.1, trivial⟩
      refine tl_nil ?_
      refine k104 _ _ ?_
      refine wp_seq_k fun K109 k109 => ?_
      refine wp_region_lit ?_
      refine sx_head (sv108.st w106) 9 [(139, Sp.is (.int .i64 10)), (140, Sp.is (.bool true)), (141, Sp.is (.bool true)), (142, Sp.is (.int .i64 10)), (143, Sp.is (.bool true)), (144, Sp.is (.bool true)), (145, Sp.is (.bool true)), (146, Sp.is (.bool true)), (147, Sp.is (.bool true))] rfl (by kernel_rfl) (by kernel_rfl) (by kernel_rfl)
        ⟨xm rfl rfl rfl rfl rfl, ox_bin rfl rfl trivial (oy rfl rfl) rfl (fun _ => rn_eql rfl) (fun _ => rfl), xm rfl rfl rfl rfl rfl, ox_move 27 142 (.inl rfl) rfl rfl (gy rfl rfl rfl) (fun _ _ h => h), ox_bin rfl rfl (gy rfl rfl rfl) (oy rfl rfl) rfl (fun _ => rn_eql rfl) (fun _ => rfl), ox_pick rfl rfl trivial (oy rfl rfl) (oy rfl rfl) (fun _ => rfl), xm rfl rfl rfl rfl rfl, ox_call (Sp.is (.bool true)) [] rfl rfl (gy rfl rfl rfl) trivial (is_on fun W g => awake_walk W) (fun _ _ h => h) (enter_of Try.func19 (by kernel_rfl) rfl), ox_pick rfl rfl trivial (oy rfl rfl) (oy rfl rfl) (fun _ => rfl), trivial⟩ fun a110 w110 g110 st110 => ?_
      obtain ⟨hn110, hd110, e110_139, e110_140, e110_141, e110_142, e110_143, e110_144, e110_145, e110_146, e110_147, e110_27, e110_25, e110_15, e110_14, e110_12, e110_8, e110_7, e110_1, e110_2, e110_31, e110_11, e110_13, e110_63, e110_65, -⟩ := st110
      replace HB3_2 := rw_kn g110 HB3_2
      replace HB7_7 := rw_kn g110 HB7_7
      replace HB11_37 := rw_kn g110 HB11_37
      replace HB13_43 := rw_kn g110 HB13_43
      replace HB24_100 := rw_kn g110 HB24_100
      replace HB26_105 := rw_kn g110 HB26_105
      replace hr := hr.kn g110
      replace hk38 := hk38.kn g110
      replace hk44 := hk44.kn g110
      replace HG := grown_trans HG g110
      have sv110 : Sv 148 [] [(27, .int .i64 10), (25, .int .i64 10), (15, .int .i64 (((2 * p : Nat) : Int))), (14, .int .i64 0), (12, .int .i64 0), (8, .int .i64 (((3 : Nat) : Int))), (7, .pointer (some ⟨B7_7, 0, none⟩)), (1, .int .i64 xa), (2, .int .i64 xb), (31, .bool false), (11, .pointer (some ⟨B11_37, 0, none⟩)), (13, .pointer (some ⟨B13_43, 0, none⟩)), (63, .bool false), (65, .bool false), (147, .bool true)] a110 := ⟨hn110, hd110, e110_27, e110_25, e110_15, e110_14, e110_12, e110_8, e110_7, e110_1, e110_2, e110_31, e110_11, e110_13, e110_63, e110_65, e110_147, trivial⟩
      refine tl_assign sv110 rfl (.inl rfl) rfl rfl rfl rfl fun a111 sv111 => ?_
      replace sv111 : Sv 148 [] [(6, .bool true), (27, .int .i64 10), (25, .int .i64 10), (15, .int .i64 (((2 * p : Nat) : Int))), (14, .int .i64 0), (12, .int .i64 0), (8, .int .i64 (((3 : Nat) : Int))), (7, .pointer (some ⟨B7_7, 0, none⟩)), (1, .int .i64 xa), (2, .int .i64 xb), (31, .bool false), (11, .pointer (some ⟨B11_37, 0, none⟩)), (13, .pointer (some ⟨B13_43, 0, none⟩)), (63, .bool false), (65, .bool false), (147, .bool true)] a111 := sv111
      have sv112 : Sv 148 [] [(6, .bool true), (15, .int .i64 (((2 * p : Nat) : Int))), (14, .int .i64 0), (12, .int .i64 0), (8, .int .i64 (((3 : Nat) : Int))), (7, .pointer (some ⟨B7_7, 0, none⟩)), (1, .int .i64 xa), (2, .int .i64 xb), (31, .bool false), (11, .pointer (some ⟨B11_37, 0, none⟩)), (13, .pointer (some ⟨B13_43, 0, none⟩)), (63, .bool false), (65, .bool false)] a111 := ⟨sv111.1, sv111.2.1, sv111.2.2.1, sv111.2.2.2.2.2.1, sv111.2.2.2.2.2.2.1, sv111.2.2.2.2.2.2.2.1, sv111.2.2.2.2.2.2.2.2.1, sv111.2.2.2.2.2.2.2.2.2.1, sv111.2.2.2.2.2.2.2.2.2.2.1, sv111.2.2.2.2.2.2.2.2.2.2.2.1, sv111.2.2.2.2.2.2.2.2.2.2.2.2.1, sv111.2.2.2.2.2.2.2.2.2.2.2.2.2.1, sv111.2.2.2.2.2.2.2.2.2.2.2.2.2.2.1, sv111.2.2.2.2.2.2.2.2.2.2.2.2.2.2.2.1, sv111.2.2.2.2.2.2.2.2.2.2.2.2.2.2.2.2.1, trivial⟩
      refine tl_nil ?_
      refine k109 _ _ ?_
      refine wp_ret ?_
      repeat refine then_ret ?_
      refine cx_ret (fn := Try.f16) sv112 (res_tmp (p := 6) Try.results16 sv112 rfl rfl) ?_
      exact ⟨rfl, HG⟩
end Go.Proofs.Yteakoleceoclkaa
