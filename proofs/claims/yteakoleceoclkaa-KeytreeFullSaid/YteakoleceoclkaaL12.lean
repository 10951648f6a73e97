/- Key trees: the law KeytreeFull. (printed by gen_l12.py) -/
import Derived.Test.YteakoleceoclkaaPV
namespace Go.Proofs.Yteakoleceoclkaa
open Go.RowKit Go.Shelf
set_option linter.unusedSimpArgs false
set_option linter.unusedVariables false
set_option maxRecDepth 100000 in
set_option maxHeartbeats 4000000 in
theorem full_walk (seed : List Nat) (hse : Dg seed) (nn : Int) (w : World) :
    Calls Try.prog 12 #[dval seed, .int .i64 nn] w fun e w' => e = .returned (.bool true) ∧ w.grownBy w' none := by
  obtain ⟨m, hm64, hm⟩ := and63 nn
  obtain ⟨sa, hsaE⟩ : ∃ x, kd 273 seed = x := ⟨_, rfl⟩
  have hsa : Dg sa := hsaE ▸ kd_dg _ _
  refine cx_enter Try.func12 rfl Try.ntmps12 rfl fun a0 sv0 => ?_
  have HG := World.grownBy.refl w none
  replace sv0 : Sv 101 [] [(0, dval seed), (1, .int .i64 nn)] a0 := sv0
  refine wp_seq_k fun K1 k1 => ?_
  refine wp_region_lit ?_
  refine tl_box sv0 rfl rfl rfl rfl rfl rfl (tyD seed hse.1) fun a2 w2 B2_2 eq_B2_2 g2 z2 HB2_2 sv2 => ?_
  have lo_B2_2 := nb_lo HG eq_B2_2
  replace HG := grown_trans HG g2
  replace sv2 : Sv 101 [] [(2, .pointer (some ⟨B2_2, 0, none⟩)), (0, dval seed), (1, .int .i64 nn)] a2 := sv2
  refine tl_assign sv2 rfl (.inl rfl) rfl rfl rfl rfl fun a3 sv3 => ?_
  replace sv3 : Sv 101 [] [(4, .bool false), (2, .pointer (some ⟨B2_2, 0, none⟩)), (0, dval seed), (1, .int .i64 nn)] a3 := sv3
  have sv4 : Sv 101 [] [(4, .bool false), (2, .pointer (some ⟨B2_2, 0, none⟩)), (1, .int .i64 nn)] a3 := ⟨sv3.1, sv3.2.1, sv3.2.2.1, sv3.2.2.2.1, sv3.2.2.2.2.2.1, trivial⟩
  refine tl_nil ?_
  refine k1 _ _ ?_
  refine wp_seq_k fun K5 k5 => ?_
  refine wp_region_lit ?_
  refine sx_head (sv4.st w2) 2 [(18, Sp.is (dval seed)), (19, Sp.is (vval sa ((kd 274 seed)) (.slice none 0 0)))] rfl (by kernel_rfl) (by kernel_rfl) (by kernel_rfl)
    ⟨xl rfl rfl rfl rfl rfl (tyD seed hse.1) HB2_2 rfl, ox_call (Sp.is (vval sa ((kd 274 seed)) (.slice none 0 0))) [dval seed] rfl rfl trivial ⟨(oy rfl rfl), trivial⟩ (is_on fun W g => by rw [← hsaE]; exact newv_walk seed hse W) (fun _ _ h => h) (enter_of Try.func35 (by kernel_rfl) rfl), trivial⟩ fun a6 w6 g6 st6 => ?_
  obtain ⟨hn6, hd6, e6_18, e6_19, e6_4, e6_2, e6_1, -⟩ := st6
  replace HB2_2 := rw_kn g6 HB2_2
  replace HG := grown_trans HG g6
  have sv6 : Sv 101 [] [(4, .bool false), (2, .pointer (some ⟨B2_2, 0, none⟩)), (1, .int .i64 nn), (19, vval sa ((kd 274 seed)) (.slice none 0 0))] a6 := ⟨hn6, hd6, e6_4, e6_2, e6_1, e6_19, trivial⟩
  refine tl_alloc (T := 58) (Z := ([bv zero32, bv zero32, [.slice none 0 0]].flatten)) sv6 rfl rfl rfl (fun a w => by kernel_rfl) fun a7 w7 B5_7 eq_B5_7 g7 z7 HB5_7 sv7 => ?_
  have ne_B5_7_B2_2 := nb_ne HB2_2 eq_B5_7
  have lo_B5_7 := nb_lo HG eq_B5_7
  replace HB2_2 := rw_kn g7 HB2_2
  replace HG := grown_trans HG g7
  replace sv7 : Sv 101 [] [(5, .pointer (some ⟨B5_7, 0, none⟩)), (4, .bool false), (2, .pointer (some ⟨B2_2, 0, none⟩)), (1, .int .i64 nn), (19, vval sa ((kd 274 seed)) (.slice none 0 0))] a7 := sv7
  refine tl_storeW sv7 rfl rfl rfl rfl rfl rfl rfl (tyVa hsa (kd_dg _ _) (.slice none 0 0) rfl) HB5_7 (by first | rfl | simp [kcells, bv_length, zero32_len, hsa.1, (kd_dg _ _).1]) fun w8 g8 h8 => ?_
  replace HB2_2 := rw_st g8 HB2_2 (Ne.symm ne_B5_7_B2_2)
  replace HG := grown_newR HG g8 lo_B5_7
  replace HB5_7 := h8
  have sv9 : Sv 101 [] [(5, .pointer (some ⟨B5_7, 0, none⟩)), (4, .bool false), (1, .int .i64 nn)] a7 := ⟨sv7.1, sv7.2.1, sv7.2.2.1, sv7.2.2.2.1, sv7.2.2.2.2.2.1, trivial⟩
  refine tl_nil ?_
  refine k5 _ _ ?_
  refine wp_seq_k fun K10 k10 => ?_
  refine wp_seq_k fun K11 k11 => ?_
  refine wp_region_lit ?_
  refine tl_assign sv9 rfl (.inl rfl) rfl rfl rfl rfl fun a12 sv12 => ?_
  replace sv12 : Sv 101 [] [(6, .int .i64 0), (5, .pointer (some ⟨B5_7, 0, none⟩)), (4, .bool false), (1, .int .i64 nn)] a12 := sv12
  refine tl_nil ?_
  refine k11 _ _ ?_
  refine cx_block fun Q13 x13 y13 r13 o13 => ?_
  have hr := RdK.nil w8
  have ap_hr_B2_2 : ∀ k, fpK (.slice none 0 0) [] k → k ≠ B2_2 := fun k hk => (fpK_nil k hk).elim
  have ap_hr_B5_7 : ∀ k, fpK (.slice none 0 0) [] k → k ≠ B5_7 := fun k hk => (fpK_nil k hk).elim
  refine wp_loop (fun a w' => ∃ (i : Nat) (ks : List VK) (ao : Option Addr) (cap : Nat) (po : List Nat), (i ≤ 64) ∧ (Dg po) ∧ (FInv (ks.map VK.p) i) ∧ Sv 101 [] [(6, .int .i64 ((i : Int))), (5, .pointer (some ⟨B5_7, 0, none⟩)), (1, .int .i64 nn)] a ∧ w.grownBy w' none ∧ w'.heap[B2_2]? = some (.cells (bv seed).toArray 29 (0, 0)) ∧ w'.heap[B5_7]? = some (.cells ([bv sa, bv po, [.slice ao ks.length cap]].flatten).toArray 58 (0, 0)) ∧ RdK w' (.slice ao ks.length cap) ks ∧ (∀ k, fpK (.slice ao ks.length cap) ks k → k ≠ B2_2) ∧ (∀ k, fpK (.slice ao ks.length cap) ks k → k ≠ B5_7)) (fun a _ => (64 - intOf (a.tmps.getD 6 undef)).toNat) ⟨0, [], none, 0, (kd 274 seed), by omega, kd_dg _ _, FInv.zero, ⟨sv12.1, sv12.2.1, sv12.2.2.1, sv12.2.2.2.1, sv12.2.2.2.2.2.1, trivial⟩, HG, HB2_2, HB5_7, hr, ap_hr_B2_2, ap_hr_B5_7⟩ fun a14 w14 hI14 => ?_
  clear HB2_2
  clear HB5_7
  clear hr
  clear HG
  obtain ⟨i, ks, ao, cap, po, hi64, hpo, hF, sv14, HG, HB2_2, HB5_7, hr, ap_hr_B2_2, ap_hr_B5_7⟩ := hI14
  refine wp_seq_k fun K15 k15 => ?_
  refine wp_seq_k fun K16 k16 => ?_
  obtain ⟨T, hT⟩ : ∃ T, tree (kd 275 po) [] = T := ⟨_, rfl⟩
  by_cases hi : i < 64
  · have hn := hF.not (n := 3 * i) fun j hj => by omega
    have hlen := hF.2.1
    refine wp_region_lit ?_
    refine sx_head (sv14.st w14) 2 [(20, Sp.is (.int .i64 ((i : Int)))), (21, Sp.is (.bool true))] rfl (by kernel_rfl) (by kernel_rfl) (by kernel_rfl)
      ⟨xm rfl rfl rfl rfl rfl, ox_bin rfl rfl trivial (oy rfl rfl) rfl (fun _ => rn_lss (decide_eq_true (by omega))) (fun _ => rfl), trivial⟩ fun a17 w17 g17 st17 => ?_
    obtain ⟨hn17, hd17, e17_20, e17_21, e17_6, e17_5, e17_1, -⟩ := st17
    replace HB2_2 := rw_kn g17 HB2_2
    replace HB5_7 := rw_kn g17 HB5_7
    replace hr := hr.kn g17
    replace HG := grown_trans HG g17
    have sv17 : Sv 101 [] [(6, .int .i64 ((i : Int))), (5, .pointer (some ⟨B5_7, 0, none⟩)), (1, .int .i64 nn), (21, .bool true)] a17 := ⟨hn17, hd17, e17_6, e17_5, e17_1, e17_21, trivial⟩
    refine tl_nil ?_
    refine k16 _ _ ?_
    refine cx_ifT sv17 rfl rfl ?_
    refine wp_skip ?_
    refine k15 _ _ ?_
    refine wp_seq_k fun K18 k18 => ?_
    refine cx_block fun Q19 x19 y19 r19 o19 => ?_
    refine wp_seq_k fun K20 k20 => ?_
    refine wp_region_lit ?_
    refine sx_head (sv17.st w17) 9 [(25, Sp.is (vval sa po (.slice ao ks.length cap))), (26, Sp.is (.int .i64 ((i : Int)))), (27, Sp.is (.int .i64 (((3 * i : Nat) : Int)))), (28, Sp.is (.int .u8 (((3 * i : Nat) : Int)))), (29, Sp.is (dval ((dg1 (3 * i))))), (30, Sp.vt ((insV (ks.map VK.p) (dg1 (3 * i)) T, sa, (kd 276 po)), (0 : Int)) ((fun _ => False))), (24, Sp.vt ((insV (ks.map VK.p) (dg1 (3 * i)) T, sa, (kd 276 po)), (0 : Int)) ((fun _ => False))), (31, Sp.vv (insV (ks.map VK.p) (dg1 (3 * i)) T, sa, (kd 276 po)) ((fun _ => False))), (32, Sp.is (.int .i64 0))] rfl (by kernel_rfl) (by kernel_rfl) (by kernel_rfl)
      ⟨xl rfl rfl rfl rfl rfl (tyVa hsa hpo (.slice ao ks.length cap) rfl) HB5_7 rfl, xm rfl rfl rfl rfl rfl, ox_bin rfl rfl trivial (oy rfl rfl) rfl (fun _ => rn_mul (by rw [wrap_i64 (by omega) (by omega)]; omega)) (fun _ => rfl), ox_conv rfl rfl trivial (oy rfl rfl) (fun _ => rn_conv Try.underlying3 Try.underlying5 (wrap_u8 (by omega) (by omega))) (fun _ => rfl), ox_build (vs := [.int .u8 (((3 * i : Nat) : Int))]) rfl rfl trivial ⟨(oy rfl rfl), trivial⟩ (fun _ => bDg1 (3 * i) _) (fun _ => rfl), ox_call (Sp.vt ((insV (ks.map VK.p) (dg1 (3 * i)) T, sa, (kd 276 po)), (0 : Int)) ((fun _ => False))) [vval sa po (.slice ao ks.length cap), dval ((dg1 (3 * i)))] rfl rfl trivial ⟨(oy rfl rfl), (oy rfl rfl), trivial⟩ (ens_on hsa hpo (dg1_dg (by omega)) hr rfl hT (ensO_new hF.1 hn (by rw [hlen]; exact hi))) (fun _ _ h => h) (enter_of Try.func36 (by kernel_rfl) rfl), xm rfl rfl rfl rfl rfl, ox_extract rfl rfl rfl trivial (fun w u h => vt_vault w u h), ox_extract rfl rfl rfl trivial (fun w u h => vt_err w u h), trivial⟩ fun a21 w21 g21 st21 => ?_
    obtain ⟨hn21, hd21, e21_25, e21_26, e21_27, e21_28, e21_29, e21_30, e21_24, e21_31, e21_32, e21_6, e21_5, e21_1, e21_21, -⟩ := st21
    obtain ⟨ao22, cap22, ks22, e21_31q, hp22, hk22, hf22⟩ := e21_31
    replace HB2_2 := rw_kn g21 HB2_2
    replace HB5_7 := rw_kn g21 HB5_7
    replace hr := hr.kn g21
    replace HG := grown_trans HG g21
    have ap_hk22_B2_2 : ∀ k, fpK (.slice ao22 ks22.length cap22) ks22 k → k ≠ B2_2 := fun k hk => (hf22 k hk).elim (fun h => h.elim) (fun t => tagv_ne t HB2_2 (by decide))
    have ap_hk22_B5_7 : ∀ k, fpK (.slice ao22 ks22.length cap22) ks22 k → k ≠ B5_7 := fun k hk => (hf22 k hk).elim (fun h => h.elim) (fun t => tagv_ne t HB5_7 (by decide))
    have sv21 : Sv 101 [] [(6, .int .i64 ((i : Int))), (5, .pointer (some ⟨B5_7, 0, none⟩)), (1, .int .i64 nn), (21, .bool true), (31, vval sa ((kd 276 po)) (.slice ao22 ks22.length cap22)), (32, .int .i64 0)] a21 := ⟨hn21, hd21, e21_6, e21_5, e21_1, e21_21, e21_31q, e21_32, trivial⟩
    refine tl_alloc (T := 58) (Z := ([bv zero32, bv zero32, [.slice none 0 0]].flatten)) sv21 rfl rfl rfl (fun a w => by kernel_rfl) fun a23 w23 B7_23 eq_B7_23 g23 z23 HB7_23 sv23 => ?_
    have ne_B7_23_B2_2 := nb_ne HB2_2 eq_B7_23
    have ne_B7_23_B5_7 := nb_ne HB5_7 eq_B7_23
    have lo_B7_23 := nb_lo HG eq_B7_23
    have ap_hr_B7_23 := nb_ap (hr.lt) eq_B7_23
    have ap_hk22_B7_23 := nb_ap (hk22.lt) eq_B7_23
    replace HB2_2 := rw_kn g23 HB2_2
    replace HB5_7 := rw_kn g23 HB5_7
    replace hr := hr.kn g23
    replace hk22 := hk22.kn g23
    replace HG := grown_trans HG g23
    replace sv23 : Sv 101 [] [(7, .pointer (some ⟨B7_23, 0, none⟩)), (6, .int .i64 ((i : Int))), (5, .pointer (some ⟨B5_7, 0, none⟩)), (1, .int .i64 nn), (21, .bool true), (31, vval sa ((kd 276 po)) (.slice ao22 ks22.length cap22)), (32, .int .i64 0)] a23 := sv23
    refine tl_storeW sv23 rfl rfl rfl rfl rfl rfl rfl (tyVa hsa (kd_dg _ _) (.slice ao22 ks22.length cap22) rfl) HB7_23 (by first | rfl | simp [kcells, bv_length, zero32_len, hsa.1, (kd_dg _ _).1]) fun w24 g24 h24 => ?_
    replace HB2_2 := rw_st g24 HB2_2 (Ne.symm ne_B7_23_B2_2)
    replace HB5_7 := rw_st g24 HB5_7 (Ne.symm ne_B7_23_B5_7)
    replace hr := hr.offR g24 (fun k hk e => ap_hr_B7_23 k hk (Option.some.inj e).symm)
    replace hk22 := hk22.offR g24 (fun k hk e => ap_hk22_B7_23 k hk (Option.some.inj e).symm)
    replace HG := grown_newR HG g24 lo_B7_23
    replace HB7_23 := h24
    refine tl_assign sv23 rfl (.inl rfl) rfl rfl rfl rfl fun a25 sv25 => ?_
    replace sv25 : Sv 101 [] [(8, .int .i64 0), (7, .pointer (some ⟨B7_23, 0, none⟩)), (6, .int .i64 ((i : Int))), (5, .pointer (some ⟨B5_7, 0, none⟩)), (1, .int .i64 nn), (21, .bool true), (31, vval sa ((kd 276 po)) (.slice ao22 ks22.length cap22)), (32, .int .i64 0)] a25 := sv25
    have sv26 : Sv 101 [] [(8, .int .i64 0), (7, .pointer (some ⟨B7_23, 0, none⟩)), (6, .int .i64 ((i : Int))), (5, .pointer (some ⟨B5_7, 0, none⟩)), (1, .int .i64 nn), (21, .bool true)] a25 := ⟨sv25.1, sv25.2.1, sv25.2.2.1, sv25.2.2.2.1, sv25.2.2.2.2.1, sv25.2.2.2.2.2.1, sv25.2.2.2.2.2.2.1, sv25.2.2.2.2.2.2.2.1, trivial⟩
    refine tl_nil ?_
    refine k20 _ _ ?_
    refine wp_seq_k fun K27 k27 => ?_
    refine wp_seq_k fun K28 k28 => ?_
    refine wp_region_lit ?_
    refine sx_head (sv26.st w24) 2 [(33, Sp.is (.int .i64 0)), (34, Sp.is (.bool false))] rfl (by kernel_rfl) (by kernel_rfl) (by kernel_rfl)
      ⟨xm rfl rfl rfl rfl rfl, ox_bin rfl rfl trivial (oy rfl rfl) rfl (fun _ => rn_neq rfl) (fun _ => rfl), trivial⟩ fun a29 w29 g29 st29 => ?_
    obtain ⟨hn29, hd29, e29_33, e29_34, e29_8, e29_7, e29_6, e29_5, e29_1, e29_21, -⟩ := st29
    replace HB2_2 := rw_kn g29 HB2_2
    replace HB5_7 := rw_kn g29 HB5_7
    replace HB7_23 := rw_kn g29 HB7_23
    replace hr := hr.kn g29
    replace hk22 := hk22.kn g29
    replace HG := grown_trans HG g29
    have sv29 : Sv 101 [] [(8, .int .i64 0), (7, .pointer (some ⟨B7_23, 0, none⟩)), (6, .int .i64 ((i : Int))), (5, .pointer (some ⟨B5_7, 0, none⟩)), (1, .int .i64 nn), (21, .bool true), (34, .bool false)] a29 := ⟨hn29, hd29, e29_8, e29_7, e29_6, e29_5, e29_1, e29_21, e29_34, trivial⟩
    refine tl_nil ?_
    refine k28 _ _ ?_
    refine cx_ifF sv29 rfl rfl ?_
    refine wp_skip ?_
    refine k27 _ _ ?_
    refine wp_region_lit ?_
    refine sx_head (sv29.st w29) 1 [(35, Sp.is (vval sa ((kd 276 po)) (.slice ao22 ks22.length cap22)))] rfl (by kernel_rfl) (by kernel_rfl) (by kernel_rfl)
      ⟨xl rfl rfl rfl rfl rfl (tyVa hsa (kd_dg _ _) (.slice ao22 ks22.length cap22) rfl) HB7_23 rfl, trivial⟩ fun a30 w30 g30 st30 => ?_
    obtain ⟨hn30, hd30, e30_35, e30_8, e30_7, e30_6, e30_5, e30_1, e30_21, e30_34, -⟩ := st30
    replace HB2_2 := rw_kn g30 HB2_2
    replace HB5_7 := rw_kn g30 HB5_7
    replace HB7_23 := rw_kn g30 HB7_23
    replace hr := hr.kn g30
    replace hk22 := hk22.kn g30
    replace HG := grown_trans HG g30
    have sv30 : Sv 101 [] [(8, .int .i64 0), (7, .pointer (some ⟨B7_23, 0, none⟩)), (6, .int .i64 ((i : Int))), (5, .pointer (some ⟨B5_7, 0, none⟩)), (1, .int .i64 nn), (21, .bool true), (34, .bool false), (35, vval sa ((kd 276 po)) (.slice ao22 ks22.length cap22))] a30 := ⟨hn30, hd30, e30_8, e30_7, e30_6, e30_5, e30_1, e30_21, e30_34, e30_35, trivial⟩
    refine tl_storeW sv30 rfl rfl rfl rfl rfl rfl rfl (tyVa hsa (kd_dg _ _) (.slice ao22 ks22.length cap22) rfl) HB5_7 (by first | rfl | simp [kcells, bv_length, zero32_len, hsa.1, (kd_dg _ _).1, hsa.1, hpo.1]) fun w31 g31 h31 => ?_
    replace HB2_2 := rw_st g31 HB2_2 (Ne.symm ne_B5_7_B2_2)
    replace HB7_23 := rw_st g31 HB7_23 ne_B7_23_B5_7
    replace hr := hr.offR g31 (fun k hk e => ap_hr_B5_7 k hk (Option.some.inj e).symm)
    replace hk22 := hk22.offR g31 (fun k hk e => ap_hk22_B5_7 k hk (Option.some.inj e).symm)
    replace HG := grown_newR HG g31 lo_B5_7
    replace HB5_7 := h31
    have sv32 : Sv 101 [] [(8, .int .i64 0), (7, .pointer (some ⟨B7_23, 0, none⟩)), (6, .int .i64 ((i : Int))), (5, .pointer (some ⟨B5_7, 0, none⟩)), (1, .int .i64 nn), (21, .bool true), (34, .bool false)] a30 := ⟨sv30.1, sv30.2.1, sv30.2.2.1, sv30.2.2.2.1, sv30.2.2.2.2.1, sv30.2.2.2.2.2.1, sv30.2.2.2.2.2.2.1, sv30.2.2.2.2.2.2.2.1, sv30.2.2.2.2.2.2.2.2.1, trivial⟩
    refine tl_nil ?_
    refine y19 _ _ ?_
    refine k18 _ _ ?_
    refine wp_region_lit ?_
    refine sx_head (sv32.st w31) 2 [(22, Sp.is (.int .i64 ((i : Int)))), (23, Sp.is (.int .i64 (((i + 1 : Nat) : Int))))] rfl (by kernel_rfl) (by kernel_rfl) (by kernel_rfl)
      ⟨xm rfl rfl rfl rfl rfl, ox_bin rfl rfl trivial (oy rfl rfl) rfl (fun _ => rn_add (by rw [wrap_i64 (by omega) (by omega)]; omega)) (fun _ => rfl), trivial⟩ fun a33 w33 g33 st33 => ?_
    obtain ⟨hn33, hd33, e33_22, e33_23, e33_8, e33_7, e33_6, e33_5, e33_1, e33_21, e33_34, -⟩ := st33
    replace HB2_2 := rw_kn g33 HB2_2
    replace HB5_7 := rw_kn g33 HB5_7
    replace HB7_23 := rw_kn g33 HB7_23
    replace hr := hr.kn g33
    replace hk22 := hk22.kn g33
    replace HG := grown_trans HG g33
    have sv33 : Sv 101 [] [(8, .int .i64 0), (7, .pointer (some ⟨B7_23, 0, none⟩)), (6, .int .i64 ((i : Int))), (5, .pointer (some ⟨B5_7, 0, none⟩)), (1, .int .i64 nn), (21, .bool true), (34, .bool false), (23, .int .i64 (((i + 1 : Nat) : Int)))] a33 := ⟨hn33, hd33, e33_8, e33_7, e33_6, e33_5, e33_1, e33_21, e33_34, e33_23, trivial⟩
    refine tl_assign sv33 rfl (.inl rfl) rfl rfl rfl rfl fun a34 sv34 => ?_
    replace sv34 : Sv 101 [] [(6, .int .i64 (((i + 1 : Nat) : Int))), (8, .int .i64 0), (7, .pointer (some ⟨B7_23, 0, none⟩)), (5, .pointer (some ⟨B5_7, 0, none⟩)), (1, .int .i64 nn), (21, .bool true), (34, .bool false), (23, .int .i64 (((i + 1 : Nat) : Int)))] a34 := sv34
    have sv35 : Sv 101 [] [(6, .int .i64 (((i + 1 : Nat) : Int))), (8, .int .i64 0), (7, .pointer (some ⟨B7_23, 0, none⟩)), (5, .pointer (some ⟨B5_7, 0, none⟩)), (1, .int .i64 nn), (21, .bool true), (34, .bool false)] a34 := ⟨sv34.1, sv34.2.1, sv34.2.2.1, sv34.2.2.2.1, sv34.2.2.2.2.1, sv34.2.2.2.2.2.1, sv34.2.2.2.2.2.2.1, sv34.2.2.2.2.2.2.2.1, sv34.2.2.2.2.2.2.2.2.1, trivial⟩
    refine tl_nil ?_
    exact ⟨⟨i + 1, ks22, ao22, cap22, (kd 276 po), by omega, kd_dg _ _, by rw [hp22]; exact hF.succ (by omega) hT, ⟨sv35.1, sv35.2.1, sv35.2.2.1, sv35.2.2.2.2.2.1, sv35.2.2.2.2.2.2.1, trivial⟩, HG, HB2_2, HB5_7, hk22, ap_hk22_B2_2, ap_hk22_B5_7⟩, by rw [show _ = _ from sv35.2.2.1, show _ = _ from sv14.2.2.1]; simp [intOf]; omega⟩
  · have hie : i = 64 := by omega
    have hlen := hF.2.1
    have hkl : ks.length = 64 := by simpa [hie] using hlen
    have hn := hF.not (n := 255) fun j hj => by omega
    have hf := hF.fnd (j := m) (by omega)
    obtain ⟨P, hP⟩ : ∃ P, ks.map VK.p = P := ⟨_, rfl⟩
    rw [hP] at hn hf hF hlen
    have hDv := dropV_vld hF.1 hf
    have hDl := drop_len hf
    have hDn : fnd (dropV P (dg1 (3 * m))) (dg1 255) = false := fnd_not (Srt.of hDv) fun h => by
      obtain ⟨x, hx, e⟩ := List.mem_map.1 h
      have h3 := (fnd_iff (Srt.of hF.1)).2 (List.mem_map.2 ⟨x, mem_drp hx, e⟩)
      rw [hn] at h3
      cases h3
    have hDl64 : (dropV P (dg1 (3 * m))).length < 64 := by omega
    refine wp_region_lit ?_
    refine sx_head (sv14.st w14) 2 [(20, Sp.is (.int .i64 ((i : Int)))), (21, Sp.is (.bool false))] rfl (by kernel_rfl) (by kernel_rfl) (by kernel_rfl)
      ⟨xm rfl rfl rfl rfl rfl, ox_bin rfl rfl trivial (oy rfl rfl) rfl (fun _ => rn_lss (decide_eq_false (by omega))) (fun _ => rfl), trivial⟩ fun a36 w36 g36 st36 => ?_
    obtain ⟨hn36, hd36, e36_20, e36_21, e36_6, e36_5, e36_1, -⟩ := st36
    replace HB2_2 := rw_kn g36 HB2_2
    replace HB5_7 := rw_kn g36 HB5_7
    replace hr := hr.kn g36
    replace HG := grown_trans HG g36
    have sv36 : Sv 101 [] [(6, .int .i64 ((i : Int))), (5, .pointer (some ⟨B5_7, 0, none⟩)), (1, .int .i64 nn), (21, .bool false)] a36 := ⟨hn36, hd36, e36_6, e36_5, e36_1, e36_21, trivial⟩
    refine tl_nil ?_
    refine k16 _ _ ?_
    refine cx_ifF sv36 rfl rfl ?_
    refine wp_exit ?_
    repeat refine then_exit ?_
    refine x13 _ _ ?_
    refine k10 _ _ ?_
    refine wp_seq_k fun K37 k37 => ?_
    refine wp_region_lit ?_
    refine sx_head (sv36.st w36) 3 [(36, Sp.is (.int .i64 nn)), (37, Sp.is (.int .i64 ((m : Int)))), (38, Sp.is (.int .u8 ((m : Int))))] rfl (by kernel_rfl) (by kernel_rfl) (by kernel_rfl)
      ⟨xm rfl rfl rfl rfl rfl, ox_bin rfl rfl trivial (oy rfl rfl) rfl (fun _ => rn_and hm) (fun _ => rfl), ox_conv rfl rfl trivial (oy rfl rfl) (fun _ => rn_conv Try.underlying3 Try.underlying5 (wrap_u8 (by omega) (by omega))) (fun _ => rfl), trivial⟩ fun a38 w38 g38 st38 => ?_
    obtain ⟨hn38, hd38, e38_36, e38_37, e38_38, e38_6, e38_5, e38_1, e38_21, -⟩ := st38
    replace HB2_2 := rw_kn g38 HB2_2
    replace HB5_7 := rw_kn g38 HB5_7
    replace hr := hr.kn g38
    replace HG := grown_trans HG g38
    have sv38 : Sv 101 [] [(6, .int .i64 ((i : Int))), (5, .pointer (some ⟨B5_7, 0, none⟩)), (1, .int .i64 nn), (21, .bool false), (38, .int .u8 ((m : Int)))] a38 := ⟨hn38, hd38, e38_6, e38_5, e38_1, e38_21, e38_38, trivial⟩
    refine tl_assign sv38 rfl (.inl rfl) rfl rfl rfl rfl fun a39 sv39 => ?_
    replace sv39 : Sv 101 [] [(9, .int .u8 ((m : Int))), (6, .int .i64 ((i : Int))), (5, .pointer (some ⟨B5_7, 0, none⟩)), (1, .int .i64 nn), (21, .bool false), (38, .int .u8 ((m : Int)))] a39 := sv39
    have sv40 : Sv 101 [] [(9, .int .u8 ((m : Int))), (6, .int .i64 ((i : Int))), (5, .pointer (some ⟨B5_7, 0, none⟩)), (21, .bool false)] a39 := ⟨sv39.1, sv39.2.1, sv39.2.2.1, sv39.2.2.2.1, sv39.2.2.2.2.1, sv39.2.2.2.2.2.2.1, trivial⟩
    refine tl_nil ?_
    refine k37 _ _ ?_
    refine wp_seq_k fun K41 k41 => ?_
    refine wp_region_lit ?_
    refine sx_head (sv40.st w38) 6 [(40, Sp.is (vval sa po (.slice ao ks.length cap))), (41, Sp.is (dval ((dg1 (255))))), (42, Sp.vt (zeroV, (8 : Int)) ((fun _ => False))), (39, Sp.vt (zeroV, (8 : Int)) ((fun _ => False))), (43, Sp.vv zeroV ((fun _ => False))), (44, Sp.is (.int .i64 8))] rfl (by kernel_rfl) (by kernel_rfl) (by kernel_rfl)
      ⟨xl rfl rfl rfl rfl rfl (tyVa hsa hpo (.slice ao ks.length cap) rfl) HB5_7 rfl, ox_build (vs := [.int .u8 255]) rfl rfl trivial ⟨rfl, trivial⟩ (fun _ => bDg1 (255) _) (fun _ => rfl), ox_call (Sp.vt (zeroV, (8 : Int)) ((fun _ => False))) [vval sa po (.slice ao ks.length cap), dval ((dg1 (255)))] rfl rfl trivial ⟨(oy rfl rfl), (oy rfl rfl), trivial⟩ (ens_on hsa hpo (dg1_dg (by omega)) hr hP hT (ensO_full hF.1 hn (by omega))) (fun _ _ h => h) (enter_of Try.func36 (by kernel_rfl) rfl), xm rfl rfl rfl rfl rfl, ox_extract rfl rfl rfl trivial (fun w u h => vt_vault w u h), ox_extract rfl rfl rfl trivial (fun w u h => vt_err w u h), trivial⟩ fun a42 w42 g42 st42 => ?_
    obtain ⟨hn42, hd42, e42_40, e42_41, e42_42, e42_39, e42_43, e42_44, e42_9, e42_6, e42_5, e42_21, -⟩ := st42
    obtain ⟨ao43, cap43, ks43, e42_43q, hp43, hk43, hf43⟩ := e42_43
    replace HB2_2 := rw_kn g42 HB2_2
    replace HB5_7 := rw_kn g42 HB5_7
    replace hr := hr.kn g42
    replace HG := grown_trans HG g42
    have ap_hk43_B2_2 : ∀ k, fpK (.slice ao43 ks43.length cap43) ks43 k → k ≠ B2_2 := fun k hk => (hf43 k hk).elim (fun h => h.elim) (fun t => tagv_ne t HB2_2 (by decide))
    have ap_hk43_B5_7 : ∀ k, fpK (.slice ao43 ks43.length cap43) ks43 k → k ≠ B5_7 := fun k hk => (hf43 k hk).elim (fun h => h.elim) (fun t => tagv_ne t HB5_7 (by decide))
    have sv42 : Sv 101 [] [(9, .int .u8 ((m : Int))), (6, .int .i64 ((i : Int))), (5, .pointer (some ⟨B5_7, 0, none⟩)), (21, .bool false), (43, vval zero32 zero32 (.slice ao43 ks43.length cap43)), (44, .int .i64 8)] a42 := ⟨hn42, hd42, e42_9, e42_6, e42_5, e42_21, e42_43q, e42_44, trivial⟩
    refine tl_alloc (T := 58) (Z := ([bv zero32, bv zero32, [.slice none 0 0]].flatten)) sv42 rfl rfl rfl (fun a w => by kernel_rfl) fun a44 w44 B10_44 eq_B10_44 g44 z44 HB10_44 sv44 => ?_
    have ne_B10_44_B2_2 := nb_ne HB2_2 eq_B10_44
    have ne_B10_44_B5_7 := nb_ne HB5_7 eq_B10_44
    have lo_B10_44 := nb_lo HG eq_B10_44
    have ap_hr_B10_44 := nb_ap (hr.lt) eq_B10_44
    have ap_hk43_B10_44 := nb_ap (hk43.lt) eq_B10_44
    replace HB2_2 := rw_kn g44 HB2_2
    replace HB5_7 := rw_kn g44 HB5_7
    replace hr := hr.kn g44
    replace hk43 := hk43.kn g44
    replace HG := grown_trans HG g44
    replace sv44 : Sv 101 [] [(10, .pointer (some ⟨B10_44, 0, none⟩)), (9, .int .u8 ((m : Int))), (6, .int .i64 ((i : Int))), (5, .pointer (some ⟨B5_7, 0, none⟩)), (21, .bool false), (43, vval zero32 zero32 (.slice ao43 ks43.length cap43)), (44, .int .i64 8)] a44 := sv44
    refine tl_storeW sv44 rfl rfl rfl rfl rfl rfl rfl (tyVa zero32_dg zero32_dg (.slice ao43 ks43.length cap43) rfl) HB10_44 (by first | rfl | simp [kcells, bv_length, zero32_len, zero32_dg.1, zero32_dg.1]) fun w45 g45 h45 => ?_
    replace HB2_2 := rw_st g45 HB2_2 (Ne.symm ne_B10_44_B2_2)
    replace HB5_7 := rw_st g45 HB5_7 (Ne.symm ne_B10_44_B5_7)
    replace hr := hr.offR g45 (fun k hk e => ap_hr_B10_44 k hk (Option.some.inj e).symm)
    replace hk43 := hk43.offR g45 (fun k hk e => ap_hk43_B10_44 k hk (Option.some.inj e).symm)
    replace HG := grown_newR HG g45 lo_B10_44
    replace HB10_44 := h45
    refine tl_assign sv44 rfl (.inl rfl) rfl rfl rfl rfl fun a46 sv46 => ?_
    replace sv46 : Sv 101 [] [(11, .int .i64 8), (10, .pointer (some ⟨B10_44, 0, none⟩)), (9, .int .u8 ((m : Int))), (6, .int .i64 ((i : Int))), (5, .pointer (some ⟨B5_7, 0, none⟩)), (21, .bool false), (43, vval zero32 zero32 (.slice ao43 ks43.length cap43)), (44, .int .i64 8)] a46 := sv46
    have sv47 : Sv 101 [] [(11, .int .i64 8), (9, .int .u8 ((m : Int))), (6, .int .i64 ((i : Int))), (5, .pointer (some ⟨B5_7, 0, none⟩)), (21, .bool false)] a46 := ⟨sv46.1, sv46.2.1, sv46.2.2.1, sv46.2.2.2.2.1, sv46.2.2.2.2.2.1, sv46.2.2.2.2.2.2.1, sv46.2.2.2.2.2.2.2.1, trivial⟩
    refine tl_nil ?_
    refine k41 _ _ ?_
    refine wp_seq_k fun K48 k48 => ?_
    refine wp_region_lit ?_
    refine sx_head (sv47.st w45) 8 [(46, Sp.is (vval sa po (.slice ao ks.length cap))), (47, Sp.is (.int .u8 ((m : Int)))), (48, Sp.is (.int .u8 (((3 * m : Nat) : Int)))), (49, Sp.is (dval ((dg1 (3 * m))))), (50, Sp.vt ((P, sa, po), (0 : Int)) ((fun _ => False))), (45, Sp.vt ((P, sa, po), (0 : Int)) ((fun _ => False))), (51, Sp.vv (P, sa, po) ((fun _ => False))), (52, Sp.is (.int .i64 0))] rfl (by kernel_rfl) (by kernel_rfl) (by kernel_rfl)
      ⟨xl rfl rfl rfl rfl rfl (tyVa hsa hpo (.slice ao ks.length cap) rfl) HB5_7 rfl, xm rfl rfl rfl rfl rfl, ox_bin rfl rfl trivial (oy rfl rfl) rfl (fun _ => rn_mul (by rw [wrap_u8 (by omega) (by omega)]; omega)) (fun _ => rfl), ox_build (vs := [.int .u8 (((3 * m : Nat) : Int))]) rfl rfl trivial ⟨(oy rfl rfl), trivial⟩ (fun _ => bDg1 (3 * m) _) (fun _ => rfl), ox_call (Sp.vt ((P, sa, po), (0 : Int)) ((fun _ => False))) [vval sa po (.slice ao ks.length cap), dval ((dg1 (3 * m)))] rfl rfl trivial ⟨(oy rfl rfl), (oy rfl rfl), trivial⟩ (ens_on hsa hpo (dg1_dg (by omega)) hr hP hT (ensO_old hF.1 hf)) (fun _ _ h => h) (enter_of Try.func36 (by kernel_rfl) rfl), xm rfl rfl rfl rfl rfl, ox_extract rfl rfl rfl trivial (fun w u h => vt_vault w u h), ox_extract rfl rfl rfl trivial (fun w u h => vt_err w u h), trivial⟩ fun a49 w49 g49 st49 => ?_
    obtain ⟨hn49, hd49, e49_46, e49_47, e49_48, e49_49, e49_50, e49_45, e49_51, e49_52, e49_11, e49_9, e49_6, e49_5, e49_21, -⟩ := st49
    obtain ⟨ao50, cap50, ks50, e49_51q, hp50, hk50, hf50⟩ := e49_51
    replace HB2_2 := rw_kn g49 HB2_2
    replace HB5_7 := rw_kn g49 HB5_7
    replace HB10_44 := rw_kn g49 HB10_44
    replace hr := hr.kn g49
    replace hk43 := hk43.kn g49
    replace HG := grown_trans HG g49
    have ap_hk50_B2_2 : ∀ k, fpK (.slice ao50 ks50.length cap50) ks50 k → k ≠ B2_2 := fun k hk => (hf50 k hk).elim (fun h => h.elim) (fun t => tagv_ne t HB2_2 (by decide))
    have ap_hk50_B5_7 : ∀ k, fpK (.slice ao50 ks50.length cap50) ks50 k → k ≠ B5_7 := fun k hk => (hf50 k hk).elim (fun h => h.elim) (fun t => tagv_ne t HB5_7 (by decide))
    have ap_hk50_B10_44 : ∀ k, fpK (.slice ao50 ks50.length cap50) ks50 k → k ≠ B10_44 := fun k hk => (hf50 k hk).elim (fun h => h.elim) (fun t => tagv_ne t HB10_44 (by decide))
    have sv49 : Sv 101 [] [(11, .int .i64 8), (9, .int .u8 ((m : Int))), (6, .int .i64 ((i : Int))), (5, .pointer (some ⟨B5_7, 0, none⟩)), (21, .bool false), (51, vval sa po (.slice ao50 ks50.length cap50)), (52, .int .i64 0)] a49 := ⟨hn49, hd49, e49_11, e49_9, e49_6, e49_5, e49_21, e49_51q, e49_52, trivial⟩
    refine tl_alloc (T := 58) (Z := ([bv zero32, bv zero32, [.slice none 0 0]].flatten)) sv49 rfl rfl rfl (fun a w => by kernel_rfl) fun a51 w51 B12_51 eq_B12_51 g51 z51 HB12_51 sv51 => ?_
    have ne_B12_51_B2_2 := nb_ne HB2_2 eq_B12_51
    have ne_B12_51_B5_7 := nb_ne HB5_7 eq_B12_51
    have ne_B12_51_B10_44 := nb_ne HB10_44 eq_B12_51
    have lo_B12_51 := nb_lo HG eq_B12_51
    have ap_hr_B12_51 := nb_ap (hr.lt) eq_B12_51
    have ap_hk43_B12_51 := nb_ap (hk43.lt) eq_B12_51
    have ap_hk50_B12_51 := nb_ap (hk50.lt) eq_B12_51
    replace HB2_2 := rw_kn g51 HB2_2
    replace HB5_7 := rw_kn g51 HB5_7
    replace HB10_44 := rw_kn g51 HB10_44
    replace hr := hr.kn g51
    replace hk43 := hk43.kn g51
    replace hk50 := hk50.kn g51
    replace HG := grown_trans HG g51
    replace sv51 : Sv 101 [] [(12, .pointer (some ⟨B12_51, 0, none⟩)), (11, .int .i64 8), (9, .int .u8 ((m : Int))), (6, .int .i64 ((i : Int))), (5, .pointer (some ⟨B5_7, 0, none⟩)), (21, .bool false), (51, vval sa po (.slice ao50 ks50.length cap50)), (52, .int .i64 0)] a51 := sv51
    refine tl_storeW sv51 rfl rfl rfl rfl rfl rfl rfl (tyVa hsa hpo (.slice ao50 ks50.length cap50) rfl) HB12_51 (by first | rfl | simp [kcells, bv_length, zero32_len, hsa.1, hpo.1]) fun w52 g52 h52 => ?_
    replace HB2_2 := rw_st g52 HB2_2 (Ne.symm ne_B12_51_B2_2)
    replace HB5_7 := rw_st g52 HB5_7 (Ne.symm ne_B12_51_B5_7)
    replace HB10_44 := rw_st g52 HB10_44 (Ne.symm ne_B12_51_B10_44)
    replace hr := hr.offR g52 (fun k hk e => ap_hr_B12_51 k hk (Option.some.inj e).symm)
    replace hk43 := hk43.offR g52 (fun k hk e => ap_hk43_B12_51 k hk (Option.some.inj e).symm)
    replace hk50 := hk50.offR g52 (fun k hk e => ap_hk50_B12_51 k hk (Option.some.inj e).symm)
    replace HG := grown_newR HG g52 lo_B12_51
    replace HB12_51 := h52
    refine tl_assign sv51 rfl (.inl rfl) rfl rfl rfl rfl fun a53 sv53 => ?_
    replace sv53 : Sv 101 [] [(13, .int .i64 0), (12, .pointer (some ⟨B12_51, 0, none⟩)), (11, .int .i64 8), (9, .int .u8 ((m : Int))), (6, .int .i64 ((i : Int))), (5, .pointer (some ⟨B5_7, 0, none⟩)), (21, .bool false), (51, vval sa po (.slice ao50 ks50.length cap50)), (52, .int .i64 0)] a53 := sv53
    have sv54 : Sv 101 [] [(13, .int .i64 0), (12, .pointer (some ⟨B12_51, 0, none⟩)), (11, .int .i64 8), (9, .int .u8 ((m : Int))), (6, .int .i64 ((i : Int))), (5, .pointer (some ⟨B5_7, 0, none⟩)), (21, .bool false)] a53 := ⟨sv53.1, sv53.2.1, sv53.2.2.1, sv53.2.2.2.1, sv53.2.2.2.2.1, sv53.2.2.2.2.2.1, sv53.2.2.2.2.2.2.1, sv53.2.2.2.2.2.2.2.1, sv53.2.2.2.2.2.2.2.2.1, trivial⟩
    refine tl_nil ?_
    refine k48 _ _ ?_
    refine wp_seq_k fun K55 k55 => ?_
    refine wp_region_lit ?_
    refine sx_head (sv54.st w52) 8 [(54, Sp.is (vval sa po (.slice ao ks.length cap))), (55, Sp.is (.int .u8 ((m : Int)))), (56, Sp.is (.int .u8 (((3 * m : Nat) : Int)))), (57, Sp.is (dval ((dg1 (3 * m))))), (58, Sp.vt ((dropV P (dg1 (3 * m)), sa, po), (0 : Int)) ((fun _ => False))), (53, Sp.vt ((dropV P (dg1 (3 * m)), sa, po), (0 : Int)) ((fun _ => False))), (59, Sp.vv (dropV P (dg1 (3 * m)), sa, po) ((fun _ => False))), (60, Sp.is (.int .i64 0))] rfl (by kernel_rfl) (by kernel_rfl) (by kernel_rfl)
      ⟨xl rfl rfl rfl rfl rfl (tyVa hsa hpo (.slice ao ks.length cap) rfl) HB5_7 rfl, xm rfl rfl rfl rfl rfl, ox_bin rfl rfl trivial (oy rfl rfl) rfl (fun _ => rn_mul (by rw [wrap_u8 (by omega) (by omega)]; omega)) (fun _ => rfl), ox_build (vs := [.int .u8 (((3 * m : Nat) : Int))]) rfl rfl trivial ⟨(oy rfl rfl), trivial⟩ (fun _ => bDg1 (3 * m) _) (fun _ => rfl), ox_call (Sp.vt ((dropV P (dg1 (3 * m)), sa, po), (0 : Int)) ((fun _ => False))) [vval sa po (.slice ao ks.length cap), dval ((dg1 (3 * m)))] rfl rfl trivial ⟨(oy rfl rfl), (oy rfl rfl), trivial⟩ (drp_on hsa hpo (dg1_dg (by omega)) hr hP (drpO_old hF.1 hf)) (fun _ _ h => h) (enter_of Try.func37 (by kernel_rfl) rfl), xm rfl rfl rfl rfl rfl, ox_extract rfl rfl rfl trivial (fun w u h => vt_vault w u h), ox_extract rfl rfl rfl trivial (fun w u h => vt_err w u h), trivial⟩ fun a56 w56 g56 st56 => ?_
    obtain ⟨hn56, hd56, e56_54, e56_55, e56_56, e56_57, e56_58, e56_53, e56_59, e56_60, e56_13, e56_12, e56_11, e56_9, e56_6, e56_5, e56_21, -⟩ := st56
    obtain ⟨ao57, cap57, ks57, e56_59q, hp57, hk57, hf57⟩ := e56_59
    replace HB2_2 := rw_kn g56 HB2_2
    replace HB5_7 := rw_kn g56 HB5_7
    replace HB10_44 := rw_kn g56 HB10_44
    replace HB12_51 := rw_kn g56 HB12_51
    replace hr := hr.kn g56
    replace hk43 := hk43.kn g56
    replace hk50 := hk50.kn g56
    replace HG := grown_trans HG g56
    have ap_hk57_B2_2 : ∀ k, fpK (.slice ao57 ks57.length cap57) ks57 k → k ≠ B2_2 := fun k hk => (hf57 k hk).elim (fun h => h.elim) (fun t => tagv_ne t HB2_2 (by decide))
    have ap_hk57_B5_7 : ∀ k, fpK (.slice ao57 ks57.length cap57) ks57 k → k ≠ B5_7 := fun k hk => (hf57 k hk).elim (fun h => h.elim) (fun t => tagv_ne t HB5_7 (by decide))
    have ap_hk57_B10_44 : ∀ k, fpK (.slice ao57 ks57.length cap57) ks57 k → k ≠ B10_44 := fun k hk => (hf57 k hk).elim (fun h => h.elim) (fun t => tagv_ne t HB10_44 (by decide))
    have ap_hk57_B12_51 : ∀ k, fpK (.slice ao57 ks57.length cap57) ks57 k → k ≠ B12_51 := fun k hk => (hf57 k hk).elim (fun h => h.elim) (fun t => tagv_ne t HB12_51 (by decide))
    have sv56 : Sv 101 [] [(13, .int .i64 0), (12, .pointer (some ⟨B12_51, 0, none⟩)), (11, .int .i64 8), (9, .int .u8 ((m : Int))), (6, .int .i64 ((i : Int))), (5, .pointer (some ⟨B5_7, 0, none⟩)), (21, .bool false), (59, vval sa po (.slice ao57 ks57.length cap57)), (60, .int .i64 0)] a56 := ⟨hn56, hd56, e56_13, e56_12, e56_11, e56_9, e56_6, e56_5, e56_21, e56_59q, e56_60, trivial⟩
    refine tl_alloc (T := 58) (Z := ([bv zero32, bv zero32, [.slice none 0 0]].flatten)) sv56 rfl rfl rfl (fun a w => by kernel_rfl) fun a58 w58 B14_58 eq_B14_58 g58 z58 HB14_58 sv58 => ?_
    have ne_B14_58_B2_2 := nb_ne HB2_2 eq_B14_58
    have ne_B14_58_B5_7 := nb_ne HB5_7 eq_B14_58
    have ne_B14_58_B10_44 := nb_ne HB10_44 eq_B14_58
    have ne_B14_58_B12_51 := nb_ne HB12_51 eq_B14_58
    have lo_B14_58 := nb_lo HG eq_B14_58
    have ap_hr_B14_58 := nb_ap (hr.lt) eq_B14_58
    have ap_hk43_B14_58 := nb_ap (hk43.lt) eq_B14_58
    have ap_hk50_B14_58 := nb_ap (hk50.lt) eq_B14_58
    have ap_hk57_B14_58 := nb_ap (hk57.lt) eq_B14_58
    replace HB2_2 := rw_kn g58 HB2_2
    replace HB5_7 := rw_kn g58 HB5_7
    replace HB10_44 := rw_kn g58 HB10_44
    replace HB12_51 := rw_kn g58 HB12_51
    replace hr := hr.kn g58
    replace hk43 := hk43.kn g58
    replace hk50 := hk50.kn g58
    replace hk57 := hk57.kn g58
    replace HG := grown_trans HG g58
    replace sv58 : Sv 101 [] [(14, .pointer (some ⟨B14_58, 0, none⟩)), (13, .int .i64 0), (12, .pointer (some ⟨B12_51, 0, none⟩)), (11, .int .i64 8), (9, .int .u8 ((m : Int))), (6, .int .i64 ((i : Int))), (5, .pointer (some ⟨B5_7, 0, none⟩)), (21, .bool false), (59, vval sa po (.slice ao57 ks57.length cap57)), (60, .int .i64 0)] a58 := sv58
    refine tl_storeW sv58 rfl rfl rfl rfl rfl rfl rfl (tyVa hsa hpo (.slice ao57 ks57.length cap57) rfl) HB14_58 (by first | rfl | simp [kcells, bv_length, zero32_len, hsa.1, hpo.1]) fun w59 g59 h59 => ?_
    replace HB2_2 := rw_st g59 HB2_2 (Ne.symm ne_B14_58_B2_2)
    replace HB5_7 := rw_st g59 HB5_7 (Ne.symm ne_B14_58_B5_7)
    replace HB10_44 := rw_st g59 HB10_44 (Ne.symm ne_B14_58_B10_44)
    replace HB12_51 := rw_st g59 HB12_51 (Ne.symm ne_B14_58_B12_51)
    replace hr := hr.offR g59 (fun k hk e => ap_hr_B14_58 k hk (Option.some.inj e).symm)
    replace hk43 := hk43.offR g59 (fun k hk e => ap_hk43_B14_58 k hk (Option.some.inj e).symm)
    replace hk50 := hk50.offR g59 (fun k hk e => ap_hk50_B14_58 k hk (Option.some.inj e).symm)
    replace hk57 := hk57.offR g59 (fun k hk e => ap_hk57_B14_58 k hk (Option.some.inj e).symm)
    replace HG := grown_newR HG g59 lo_B14_58
    replace HB14_58 := h59
    refine tl_assign sv58 rfl (.inl rfl) rfl rfl rfl rfl fun a60 sv60 => ?_
    replace sv60 : Sv 101 [] [(15, .int .i64 0), (14, .pointer (some ⟨B14_58, 0, none⟩)), (13, .int .i64 0), (12, .pointer (some ⟨B12_51, 0, none⟩)), (11, .int .i64 8), (9, .int .u8 ((m : Int))), (6, .int .i64 ((i : Int))), (5, .pointer (some ⟨B5_7, 0, none⟩)), (21, .bool false), (59, vval sa po (.slice ao57 ks57.length cap57)), (60, .int .i64 0)] a60 := sv60
    have sv61 : Sv 101 [] [(15, .int .i64 0), (14, .pointer (some ⟨B14_58, 0, none⟩)), (13, .int .i64 0), (12, .pointer (some ⟨B12_51, 0, none⟩)), (11, .int .i64 8), (9, .int .u8 ((m : Int))), (6, .int .i64 ((i : Int))), (5, .pointer (some ⟨B5_7, 0, none⟩)), (21, .bool false)] a60 := ⟨sv60.1, sv60.2.1, sv60.2.2.1, sv60.2.2.2.1, sv60.2.2.2.2.1, sv60.2.2.2.2.2.1, sv60.2.2.2.2.2.2.1, sv60.2.2.2.2.2.2.2.1, sv60.2.2.2.2.2.2.2.2.1, sv60.2.2.2.2.2.2.2.2.2.1, sv60.2.2.2.2.2.2.2.2.2.2.1, trivial⟩
    refine tl_nil ?_
    refine k55 _ _ ?_
    refine wp_seq_k fun K62 k62 => ?_
    refine wp_region_lit ?_
    refine sx_head (sv61.st w59) 6 [(62, Sp.is (vval sa po (.slice ao57 ks57.length cap57))), (63, Sp.is (dval ((dg1 (255))))), (64, Sp.vt ((insV (dropV P (dg1 (3 * m))) (dg1 255) T, sa, (kd 276 po)), (0 : Int)) ((fun _ => False))), (61, Sp.vt ((insV (dropV P (dg1 (3 * m))) (dg1 255) T, sa, (kd 276 po)), (0 : Int)) ((fun _ => False))), (65, Sp.vv (insV (dropV P (dg1 (3 * m))) (dg1 255) T, sa, (kd 276 po)) ((fun _ => False))), (66, Sp.is (.int .i64 0))] rfl (by kernel_rfl) (by kernel_rfl) (by kernel_rfl)
      ⟨xl rfl rfl rfl rfl rfl (tyVa hsa hpo (.slice ao57 ks57.length cap57) rfl) HB14_58 rfl, ox_build (vs := [.int .u8 255]) rfl rfl trivial ⟨rfl, trivial⟩ (fun _ => bDg1 (255) _) (fun _ => rfl), ox_call (Sp.vt ((insV (dropV P (dg1 (3 * m))) (dg1 255) T, sa, (kd 276 po)), (0 : Int)) ((fun _ => False))) [vval sa po (.slice ao57 ks57.length cap57), dval ((dg1 (255)))] rfl rfl trivial ⟨(oy rfl rfl), (oy rfl rfl), trivial⟩ (ens_on hsa hpo (dg1_dg (by omega)) hk57 hp57 hT (ensO_new hDv hDn hDl64)) (fun _ _ h => h) (enter_of Try.func36 (by kernel_rfl) rfl), xm rfl rfl rfl rfl rfl, ox_extract rfl rfl rfl trivial (fun w u h => vt_vault w u h), ox_extract rfl rfl rfl trivial (fun w u h => vt_err w u h), trivial⟩ fun a63 w63 g63 st63 => ?_
    obtain ⟨hn63, hd63, e63_62, e63_63, e63_64, e63_61, e63_65, e63_66, e63_15, e63_14, e63_13, e63_12, e63_11, e63_9, e63_6, e63_5, e63_21, -⟩ := st63
    obtain ⟨ao64, cap64, ks64, e63_65q, hp64, hk64, hf64⟩ := e63_65
    replace HB2_2 := rw_kn g63 HB2_2
    replace HB5_7 := rw_kn g63 HB5_7
    replace HB10_44 := rw_kn g63 HB10_44
    replace HB12_51 := rw_kn g63 HB12_51
    replace HB14_58 := rw_kn g63 HB14_58
    replace hr := hr.kn g63
    replace hk43 := hk43.kn g63
    replace hk50 := hk50.kn g63
    replace hk57 := hk57.kn g63
    replace HG := grown_trans HG g63
    have ap_hk64_B2_2 : ∀ k, fpK (.slice ao64 ks64.length cap64) ks64 k → k ≠ B2_2 := fun k hk => (hf64 k hk).elim (fun h => h.elim) (fun t => tagv_ne t HB2_2 (by decide))
    have ap_hk64_B5_7 : ∀ k, fpK (.slice ao64 ks64.length cap64) ks64 k → k ≠ B5_7 := fun k hk => (hf64 k hk).elim (fun h => h.elim) (fun t => tagv_ne t HB5_7 (by decide))
    have ap_hk64_B10_44 : ∀ k, fpK (.slice ao64 ks64.length cap64) ks64 k → k ≠ B10_44 := fun k hk => (hf64 k hk).elim (fun h => h.elim) (fun t => tagv_ne t HB10_44 (by decide))
    have ap_hk64_B12_51 : ∀ k, fpK (.slice ao64 ks64.length cap64) ks64 k → k ≠ B12_51 := fun k hk => (hf64 k hk).elim (fun h => h.elim) (fun t => tagv_ne t HB12_51 (by decide))
    have ap_hk64_B14_58 : ∀ k, fpK (.slice ao64 ks64.length cap64) ks64 k → k ≠ B14_58 := fun k hk => (hf64 k hk).elim (fun h => h.elim) (fun t => tagv_ne t HB14_58 (by decide))
    have sv63 : Sv 101 [] [(15, .int .i64 0), (14, .pointer (some ⟨B14_58, 0, none⟩)), (13, .int .i64 0), (12, .pointer (some ⟨B12_51, 0, none⟩)), (11, .int .i64 8), (9, .int .u8 ((m : Int))), (6, .int .i64 ((i : Int))), (5, .pointer (some ⟨B5_7, 0, none⟩)), (21, .bool false), (65, vval sa ((kd 276 po)) (.slice ao64 ks64.length cap64)), (66, .int .i64 0)] a63 := ⟨hn63, hd63, e63_15, e63_14, e63_13, e63_12, e63_11, e63_9, e63_6, e63_5, e63_21, e63_65q, e63_66, trivial⟩
    refine tl_alloc (T := 58) (Z := ([bv zero32, bv zero32, [.slice none 0 0]].flatten)) sv63 rfl rfl rfl (fun a w => by kernel_rfl) fun a65 w65 B16_65 eq_B16_65 g65 z65 HB16_65 sv65 => ?_
    have ne_B16_65_B2_2 := nb_ne HB2_2 eq_B16_65
    have ne_B16_65_B5_7 := nb_ne HB5_7 eq_B16_65
    have ne_B16_65_B10_44 := nb_ne HB10_44 eq_B16_65
    have ne_B16_65_B12_51 := nb_ne HB12_51 eq_B16_65
    have ne_B16_65_B14_58 := nb_ne HB14_58 eq_B16_65
    have lo_B16_65 := nb_lo HG eq_B16_65
    have ap_hr_B16_65 := nb_ap (hr.lt) eq_B16_65
    have ap_hk43_B16_65 := nb_ap (hk43.lt) eq_B16_65
    have ap_hk50_B16_65 := nb_ap (hk50.lt) eq_B16_65
    have ap_hk57_B16_65 := nb_ap (hk57.lt) eq_B16_65
    have ap_hk64_B16_65 := nb_ap (hk64.lt) eq_B16_65
    replace HB2_2 := rw_kn g65 HB2_2
    replace HB5_7 := rw_kn g65 HB5_7
    replace HB10_44 := rw_kn g65 HB10_44
    replace HB12_51 := rw_kn g65 HB12_51
    replace HB14_58 := rw_kn g65 HB14_58
    replace hr := hr.kn g65
    replace hk43 := hk43.kn g65
    replace hk50 := hk50.kn g65
    replace hk57 := hk57.kn g65
    replace hk64 := hk64.kn g65
    replace HG := grown_trans HG g65
    replace sv65 : Sv 101 [] [(16, .pointer (some ⟨B16_65, 0, none⟩)), (15, .int .i64 0), (14, .pointer (some ⟨B14_58, 0, none⟩)), (13, .int .i64 0), (12, .pointer (some ⟨B12_51, 0, none⟩)), (11, .int .i64 8), (9, .int .u8 ((m : Int))), (6, .int .i64 ((i : Int))), (5, .pointer (some ⟨B5_7, 0, none⟩)), (21, .bool false), (65, vval sa ((kd 276 po)) (.slice ao64 ks64.length cap64)), (66, .int .i64 0)] a65 := sv65
    refine tl_storeW sv65 rfl rfl rfl rfl rfl rfl rfl (tyVa hsa (kd_dg _ _) (.slice ao64 ks64.length cap64) rfl) HB16_65 (by first | rfl | simp [kcells, bv_length, zero32_len, hsa.1, (kd_dg _ _).1]) fun w66 g66 h66 => ?_
    replace HB2_2 := rw_st g66 HB2_2 (Ne.symm ne_B16_65_B2_2)
    replace HB5_7 := rw_st g66 HB5_7 (Ne.symm ne_B16_65_B5_7)
    replace HB10_44 := rw_st g66 HB10_44 (Ne.symm ne_B16_65_B10_44)
    replace HB12_51 := rw_st g66 HB12_51 (Ne.symm ne_B16_65_B12_51)
    replace HB14_58 := rw_st g66 HB14_58 (Ne.symm ne_B16_65_B14_58)
    replace hr := hr.offR g66 (fun k hk e => ap_hr_B16_65 k hk (Option.some.inj e).symm)
    replace hk43 := hk43.offR g66 (fun k hk e => ap_hk43_B16_65 k hk (Option.some.inj e).symm)
    replace hk50 := hk50.offR g66 (fun k hk e => ap_hk50_B16_65 k hk (Option.some.inj e).symm)
    replace hk57 := hk57.offR g66 (fun k hk e => ap_hk57_B16_65 k hk (Option.some.inj e).symm)
    replace hk64 := hk64.offR g66 (fun k hk e => ap_hk64_B16_65 k hk (Option.some.inj e).symm)
    replace HG := grown_newR HG g66 lo_B16_65
    replace HB16_65 := h66
    refine tl_assign sv65 rfl (.inl rfl) rfl rfl rfl rfl fun a67 sv67 => ?_
    replace sv67 : Sv 101 [] [(17, .int .i64 0), (16, .pointer (some ⟨B16_65, 0, none⟩)), (15, .int .i64 0), (14, .pointer (some ⟨B14_58, 0, none⟩)), (13, .int .i64 0), (12, .pointer (some ⟨B12_51, 0, none⟩)), (11, .int .i64 8), (9, .int .u8 ((m : Int))), (6, .int .i64 ((i : Int))), (5, .pointer (some ⟨B5_7, 0, none⟩)), (21, .bool false), (65, vval sa ((kd 276 po)) (.slice ao64 ks64.length cap64)), (66, .int .i64 0)] a67 := sv67
    have sv68 : Sv 101 [] [(17, .int .i64 0), (15, .int .i64 0), (14, .pointer (some ⟨B14_58, 0, none⟩)), (13, .int .i64 0), (12, .pointer (some ⟨B12_51, 0, none⟩)), (11, .int .i64 8), (9, .int .u8 ((m : Int))), (6, .int .i64 ((i : Int))), (5, .pointer (some ⟨B5_7, 0, none⟩)), (21, .bool false)] a67 := ⟨sv67.1, sv67.2.1, sv67.2.2.1, sv67.2.2.2.2.1, sv67.2.2.2.2.2.1, sv67.2.2.2.2.2.2.1, sv67.2.2.2.2.2.2.2.1, sv67.2.2.2.2.2.2.2.2.1, sv67.2.2.2.2.2.2.2.2.2.1, sv67.2.2.2.2.2.2.2.2.2.2.1, sv67.2.2.2.2.2.2.2.2.2.2.2.1, sv67.2.2.2.2.2.2.2.2.2.2.2.2.1, trivial⟩
    refine tl_nil ?_
    refine k62 _ _ ?_
    refine wp_seq_k fun K69 k69 => ?_
    have hdl : ks57.length = 63 := by rw [← len_map hp57, hDl, hlen, hie]
    refine wp_region_lit ?_
    refine sx_head (sv68.st w66) 34 [(67, Sp.is (.pointer (some ⟨B5_7, 64, none⟩))), (68, Sp.is (.slice ao ks.length cap)), (69, Sp.is (.int .i64 ((ks.length : Nat)))), (70, Sp.is (.bool true)), (71, Sp.is (.bool true)), (72, Sp.is (.int .i64 8)), (73, Sp.is (.bool true)), (74, Sp.is (.bool true)), (75, Sp.is (.bool true)), (76, Sp.is (.int .i64 0)), (77, Sp.is (.bool true)), (78, Sp.is (.bool true)), (79, Sp.is (.bool true)), (80, Sp.is (vval sa po (.slice ao ks.length cap))), (81, Sp.is (vval sa po (.slice ao50 ks50.length cap50))), (82, Sp.is (.bool true)), (83, Sp.is (.bool true)), (84, Sp.is (.bool true)), (85, Sp.is (.int .i64 0)), (86, Sp.is (.bool true)), (87, Sp.is (.bool true)), (88, Sp.is (.bool true)), (89, Sp.is (.pointer (some ⟨B14_58, 64, none⟩))), (90, Sp.is (.slice ao57 ks57.length cap57)), (91, Sp.is (.int .i64 ((ks57.length : Nat)))), (92, Sp.is (.bool true)), (93, Sp.is (.bool true)), (94, Sp.is (.bool true)), (95, Sp.is (.int .i64 0)), (96, Sp.is (.bool true)), (97, Sp.is (.bool true)), (98, Sp.is (.bool true)), (99, Sp.is (.bool true)), (100, Sp.is (.bool true))] rfl (by kernel_rfl) (by kernel_rfl) (by kernel_rfl)
      ⟨xf rfl rfl rfl rfl rfl (fun _ => by kernel_rfl) rfl, xp (i := 2) rfl rfl rfl rfl rfl (tyKs (.slice ao ks.length cap) rfl) HB5_7 rfl (by simp [bv_length, zero32_len, hsa.1, hpo.1]) rfl, ox_len (Try.underlying56) rfl rfl trivial (oy rfl rfl) (fun _ => rfl), ox_bin rfl rfl trivial (oy rfl rfl) rfl (fun _ => rn_eql (by rw [hkl]; rfl)) (fun _ => rfl), xm rfl rfl rfl rfl rfl, ox_move 11 72 (.inl rfl) rfl rfl (gy rfl rfl rfl) (fun _ _ h => h), ox_bin rfl rfl (gy rfl rfl rfl) (oy rfl rfl) rfl (fun _ => rn_eql rfl) (fun _ => rfl), ox_pick rfl rfl trivial (oy rfl rfl) (oy rfl rfl) (fun _ => rfl), xm rfl rfl rfl rfl rfl, ox_move 13 76 (.inl rfl) rfl rfl (gy rfl rfl rfl) (fun _ _ h => h), ox_bin rfl rfl (gy rfl rfl rfl) (oy rfl rfl) rfl (fun _ => rn_eql rfl) (fun _ => rfl), ox_pick rfl rfl trivial (oy rfl rfl) (oy rfl rfl) (fun _ => rfl), xm rfl rfl rfl rfl rfl, ox_load rfl rfl (gy rfl rfl rfl) (oy rfl rfl) (fun _ g => loadsAt (tyVa hsa hpo (.slice ao ks.length cap) rfl) (rangeAt_row (row_of g HB5_7 (by simp)))) (fun _ => rfl), ox_load rfl rfl (gy rfl rfl rfl) (oy rfl rfl) (fun _ g => loadsAt (tyVa hsa hpo (.slice ao50 ks50.length cap50) rfl) (rangeAt_row (row_of g HB12_51 (by simp)))) (fun _ => rfl), ox_call (Sp.is (.bool true)) [vval sa po (.slice ao ks.length cap), vval sa po (.slice ao50 ks50.length cap50)] rfl rfl (gy rfl rfl rfl) ⟨(oy rfl rfl), (oy rfl rfl), trivial⟩ (is_on fun W g => samev_walk ks ks50 _ _ _ _ _ _ hsa hpo (hP.trans hp50.symm) W (hr.kn g) (hk50.kn g)) (fun _ _ h => h) (enter_of Try.func38 (by kernel_rfl) rfl), ox_pick rfl rfl trivial (oy rfl rfl) (oy rfl rfl) (fun _ => rfl), xm rfl rfl rfl rfl rfl, ox_move 15 85 (.inl rfl) rfl rfl (gy rfl rfl rfl) (fun _ _ h => h), ox_bin rfl rfl (gy rfl rfl rfl) (oy rfl rfl) rfl (fun _ => rn_eql rfl) (fun _ => rfl), ox_pick rfl rfl trivial (oy rfl rfl) (oy rfl rfl) (fun _ => rfl), xm rfl rfl rfl rfl rfl, ox_field rfl rfl (gy rfl rfl rfl) (oy rfl rfl) (fun _ => by kernel_rfl) (fun _ => rfl), ox_load rfl rfl (gy rfl rfl rfl) (oy rfl rfl) (fun _ g => loadsAt (tyKs (.slice ao57 ks57.length cap57) rfl) (range_part (L := [bv sa, bv po, [.slice ao57 ks57.length cap57]]) (i := 2) (row_of g HB14_58 (by simp)) rfl (by simp [bv_length, zero32_len, hsa.1, hpo.1]))) (fun _ => rfl), ox_len (Try.underlying56) rfl rfl (gy rfl rfl rfl) (oy rfl rfl) (fun _ => rfl), ox_bin rfl rfl (gy rfl rfl rfl) (oy rfl rfl) rfl (fun _ => rn_eql (by rw [hdl]; rfl)) (fun _ => rfl), ox_pick rfl rfl trivial (oy rfl rfl) (oy rfl rfl) (fun _ => rfl), xm rfl rfl rfl rfl rfl, ox_move 17 95 (.inl rfl) rfl rfl (gy rfl rfl rfl) (fun _ _ h => h), ox_bin rfl rfl (gy rfl rfl rfl) (oy rfl rfl) rfl (fun _ => rn_eql rfl) (fun _ => rfl), ox_pick rfl rfl trivial (oy rfl rfl) (oy rfl rfl) (fun _ => rfl), xm rfl rfl rfl rfl rfl, ox_call (Sp.is (.bool true)) [] rfl rfl (gy rfl rfl rfl) trivial (is_on fun W g => awake_walk W) (fun _ _ h => h) (enter_of Try.func19 (by kernel_rfl) rfl), ox_pick rfl rfl trivial (oy rfl rfl) (oy rfl rfl) (fun _ => rfl), trivial⟩ fun a70 w70 g70 st70 => ?_
    obtain ⟨hn70, hd70, e70_67, e70_68, e70_69, e70_70, e70_71, e70_72, e70_73, e70_74, e70_75, e70_76, e70_77, e70_78, e70_79, e70_80, e70_81, e70_82, e70_83, e70_84, e70_85, e70_86, e70_87, e70_88, e70_89, e70_90, e70_91, e70_92, e70_93, e70_94, e70_95, e70_96, e70_97, e70_98, e70_99, e70_100, e70_17, e70_15, e70_14, e70_13, e70_12, e70_11, e70_9, e70_6, e70_5, e70_21, -⟩ := st70
    replace HB2_2 := rw_kn g70 HB2_2
    replace HB5_7 := rw_kn g70 HB5_7
    replace HB10_44 := rw_kn g70 HB10_44
    replace HB12_51 := rw_kn g70 HB12_51
    replace HB14_58 := rw_kn g70 HB14_58
    replace HB16_65 := rw_kn g70 HB16_65
    replace hr := hr.kn g70
    replace hk43 := hk43.kn g70
    replace hk50 := hk50.kn g70
    replace hk57 := hk57.kn g70
    replace hk64 := hk64.kn g70
    replace HG := grown_trans HG g70
    have sv70 : Sv 101 [] [(17, .int .i64 0), (15, .int .i64 0), (14, .pointer (some ⟨B14_58, 0, none⟩)), (13, .int .i64 0), (12, .pointer (some ⟨B12_51, 0, none⟩)), (11, .int .i64 8), (9, .int .u8 ((m : Int))), (6, .int .i64 ((i : Int))), (5, .pointer (some ⟨B5_7, 0, none⟩)), (21, .bool false), (100, .bool true)] a70 := ⟨hn70, hd70, e70_17, e70_15, e70_14, e70_13, e70_12, e70_11, e70_9, e70_6, e70_5, e70_21, e70_100, trivial⟩
    refine tl_assign sv70 rfl (.inl rfl) rfl rfl rfl rfl fun a71 sv71 => ?_
    replace sv71 : Sv 101 [] [(4, .bool true), (17, .int .i64 0), (15, .int .i64 0), (14, .pointer (some ⟨B14_58, 0, none⟩)), (13, .int .i64 0), (12, .pointer (some ⟨B12_51, 0, none⟩)), (11, .int .i64 8), (9, .int .u8 ((m : Int))), (6, .int .i64 ((i : Int))), (5, .pointer (some ⟨B5_7, 0, none⟩)), (21, .bool false), (100, .bool true)] a71 := sv71
    have sv72 : Sv 101 [] [(4, .bool true), (14, .pointer (some ⟨B14_58, 0, none⟩)), (12, .pointer (some ⟨B12_51, 0, none⟩)), (9, .int .u8 ((m : Int))), (6, .int .i64 ((i : Int))), (5, .pointer (some ⟨B5_7, 0, none⟩)), (21, .bool false)] a71 := ⟨sv71.1, sv71.2.1, sv71.2.2.1, sv71.2.2.2.2.2.1, sv71.2.2.2.2.2.2.2.1, sv71.2.2.2.2.2.2.2.2.2.1, sv71.2.2.2.2.2.2.2.2.2.2.1, sv71.2.2.2.2.2.2.2.2.2.2.2.1, sv71.2.2.2.2.2.2.2.2.2.2.2.2.1, trivial⟩
    refine tl_nil ?_
    refine k69 _ _ ?_
    refine wp_ret ?_
    repeat refine then_ret ?_
    refine cx_ret (fn := Try.f12) sv72 (res_tmp (p := 4) Try.results12 sv72 rfl rfl) ?_
    exact ⟨rfl, HG⟩
end Go.Proofs.Yteakoleceoclkaa
