/- Key trees: punctured, once more. (printed by gen_sp.py) -/
import Derived.Test.YteakoleceoclkaaSJ
import Derived.Test.YteakoleceoclkaaSI
namespace Go.Proofs.Yteakoleceoclkaa
open Go.RowKit Go.Shelf
set_option linter.unusedSimpArgs false
set_option linter.unusedVariables false
/-- what punctured hands back -/
def PtG (w : World) (T : List Nd) (e : Ending) (w' : World) : Prop := ∃ ao cap, e = .returned (.tuple #[.agg #[.slice ao T.length cap], .bool true]) ∧ RdTg w' (.slice ao T.length cap) T ∧ (∀ k, fpT (.slice ao T.length cap) k → w.heap.size ≤ k) ∧ w.grownBy w' none
theorem pt_succ {l S : List Int} {j : Nat} {x : Int} {hj : j < l.length} (hx : l[j]'hj = x) (hS : ∀ a, a ∈ S ↔ a ∈ l.take j) : ∀ a, a ∈ x :: S ↔ a ∈ l.take (j + 1) := fun a => by
  rw [List.take_succ_eq_append_getElem hj, hx, List.mem_cons, List.mem_append, List.mem_singleton, hS, or_comm]
set_option maxRecDepth 100000 in
set_option maxHeartbeats 4000000 in
theorem ptg_walk (k0 : List Nat) (hk : Dg k0) (l : List Int) (ax : Option Addr) (cax : Nat) (T : List Nd) (hT : tree k0 l = T) (hl : l.length ≤ 800) (ha : ∀ a ∈ l, isAddr a = true) (w : World) (hv : SlB w 1 (.slice ax l.length cax) l.length (l.flatMap ce)) :
    Calls Try.prog 29 #[dval k0, .slice ax l.length cax] w fun e w' => PtG w T e w' := by
  obtain ⟨T0, hT0⟩ : ∃ T0, tree k0 [] = T0 := ⟨_, rfl⟩
  refine cx_enter Try.func29 rfl Try.ntmps29 rfl fun a0 sv0 => ?_
  have HG := World.grownBy.refl w none
  replace sv0 : Sv 32 [] [(0, dval k0), (1, .slice ax l.length cax)] a0 := sv0
  refine wp_seq_k fun K1 k1 => ?_
  refine wp_region_lit ?_
  refine tl_box sv0 rfl rfl rfl rfl rfl rfl (tyD k0 hk.1) fun a2 w2 B2_2 eq_B2_2 g2 z2 HB2_2 sv2 => ?_
  have lo_B2_2 := nb_lo HG eq_B2_2
  have ap_hv_B2_2 := nb_ap (hv.lt) eq_B2_2
  replace hv := hv.kn g2
  replace HG := grown_trans HG g2
  refine tl_alloc (T := 34) (Z := [.slice none 0 0]) sv2 rfl rfl rfl (fun a w => by kernel_rfl) fun a3 w3 B4_3 eq_B4_3 g3 z3 HB4_3 sv3 => ?_
  have ne_B4_3_B2_2 := nb_ne HB2_2 eq_B4_3
  have lo_B4_3 := nb_lo HG eq_B4_3
  have ap_hv_B4_3 := nb_ap (hv.lt) eq_B4_3
  replace HB2_2 := rw_kn g3 HB2_2
  replace hv := hv.kn g3
  replace HG := grown_trans HG g3
  refine tl_as (v := .bool false) sv3 r6 fun a4 sv4 => ?_
  refine tl_nil ?_
  refine k1 _ _ ?_
  refine wp_seq_k fun K5 k5 => ?_
  refine wp_region_lit ?_
  refine sx_head (sv4.st w3) 2 [(10, Sp.is (dval k0)), (11, Sp.ct w3.heap.size T0)] rfl (by kernel_rfl) (by kernel_rfl) (by kernel_rfl)
    ⟨yl r6 (tyD k0 hk.1) HB2_2, ox_call (Sp.ct w3.heap.size T0) [dval k0] rfl rfl trivial ⟨(oy rfl rfl), trivial⟩ (newt_on hk hT0) (fun _ _ h => h) (enter_of Try.func21 (by kernel_rfl) rfl), trivial⟩ fun a6 w6 g6 st6 => ?_
  obtain ⟨hn6, hd6, e6_10, e6_11, e6_5, e6_4, e6_2, e6_0, e6_1, -⟩ := st6
  obtain ⟨ao7, cap7, e6_11q, hk7, fr7⟩ := e6_11
  have ap_hk7_B2_2 := fr_ap fr7 HB2_2
  have ap_hk7_B4_3 := fr_ap fr7 HB4_3
  have lo_hk7 : ∀ k, fpT (.slice ao7 T0.length cap7) k → w.heap.size ≤ k := fun k hk => Nat.le_trans HG.size (fr7 k hk)
  replace HB2_2 := rw_kn g6 HB2_2
  replace HB4_3 := rw_kn g6 HB4_3
  replace hv := hv.kn g6
  replace HG := grown_trans HG g6
  have sv6 : Sv 32 [] [(5, _), (4, _), (2, _), (0, _), (1, _), (11, _)] a6 := ⟨hn6, hd6, e6_5, e6_4, e6_2, e6_0, e6_1, e6_11q, trivial⟩
  refine tl_alloc (T := 34) (Z := [.slice none 0 0]) sv6 rfl rfl rfl (fun a w => by kernel_rfl) fun a8 w8 B6_8 eq_B6_8 g8 z8 HB6_8 sv8 => ?_
  have ne_B6_8_B2_2 := nb_ne HB2_2 eq_B6_8
  have ne_B6_8_B4_3 := nb_ne HB4_3 eq_B6_8
  have lo_B6_8 := nb_lo HG eq_B6_8
  have ap_hv_B6_8 := nb_ap (hv.lt) eq_B6_8
  have ap_hk7_B6_8 := nb_ap (hk7.lt) eq_B6_8
  replace HB2_2 := rw_kn g8 HB2_2
  replace HB4_3 := rw_kn g8 HB4_3
  replace hv := hv.kn g8
  replace hk7 := hk7.kn g8
  replace HG := grown_trans HG g8
  refine tl_sw sv8 r7 (tyT (.slice ao7 T0.length cap7) rfl) HB6_8 rfl fun w9 g9 h9 => ?_
  replace HB2_2 := rw_st g9 HB2_2 (Ne.symm ne_B6_8_B2_2)
  replace HB4_3 := rw_st g9 HB4_3 (Ne.symm ne_B6_8_B4_3)
  replace hv := hv.offR g9 (no_b ap_hv_B6_8)
  replace hk7 := hk7.offR g9 (no_b ap_hk7_B6_8)
  replace HG := grown_newR HG g9 lo_B6_8
  replace HB6_8 := h9
  refine tl_nil ?_
  refine k5 _ _ ?_
  refine wp_seq_k fun K10 k10 => ?_
  refine wp_seq_k fun K11 k11 => ?_
  refine wp_region_lit ?_
  refine tl_as (v := .int .i64 0) sv8 r6 fun a12 sv12 => ?_
  refine tl_nil ?_
  refine k11 _ _ ?_
  refine cx_block fun Q13 x13 y13 r13 o13 => ?_
  refine wp_loop (fun a w' => ∃ (j : Nat) (S : List Int) (ao : Option Addr) (cap : Nat) (R : List Nd), (j ≤ l.length) ∧ (S.length = j) ∧ (∀ a, a ∈ S ↔ a ∈ l.take j) ∧ (tree k0 S = R) ∧ (∀ k, fpT (.slice ao R.length cap) k → w.heap.size ≤ k) ∧ Sv 32 [] [(7, .int .i64 ((j : Int))), (6, pt B6_8), (4, pt B4_3), (2, pt B2_2), (0, dval k0), (1, .slice ax l.length cax), (11, .agg #[.slice ao7 T0.length cap7])] a ∧ w.grownBy w' none ∧ w'.heap[B2_2]? = some (.cells (bv k0).toArray 29 (0, 0)) ∧ w'.heap[B4_3]? = some (.cells ([.slice none 0 0]).toArray 34 (0, 0)) ∧ w'.heap[B6_8]? = some (.cells ([.slice ao R.length cap]).toArray 34 (0, 0)) ∧ SlB w' 1 (.slice ax l.length cax) l.length (l.flatMap ce) ∧ RdTg w' (.slice ao R.length cap) R ∧ (∀ k, fpT (.slice ao R.length cap) k → k ≠ B2_2) ∧ (∀ k, fpT (.slice ao R.length cap) k → k ≠ B4_3) ∧ (∀ k, fpT (.slice ao R.length cap) k → k ≠ B6_8)) (fun a _ => (l.length - intOf (a.tmps.getD 7 undef)).toNat) ⟨0, [], ao7, cap7, T0, by omega, rfl, fun a => by simp, hT0, lo_hk7, ⟨sv12.1, sv12.2.1, sv12.2.2.1, sv12.2.2.2.1, sv12.2.2.2.2.2.1, sv12.2.2.2.2.2.2.1, sv12.2.2.2.2.2.2.2.1, sv12.2.2.2.2.2.2.2.2.1, sv12.2.2.2.2.2.2.2.2.2.1, trivial⟩, HG, HB2_2, HB4_3, HB6_8, hv, hk7, ap_hk7_B2_2, ap_hk7_B4_3, ap_hk7_B6_8⟩ fun a14 w14 hI14 => ?_
  clear HB2_2
  clear HB4_3
  clear HB6_8
  clear hv
  clear hk7
  clear HG
  obtain ⟨j, S, ao, cap, R, hj, hSl, hS, hR, hlo, sv14, HG, HB2_2, HB4_3, HB6_8, hv, hk7, ap_hk7_B2_2, ap_hk7_B4_3, ap_hk7_B6_8⟩ := hI14
  refine wp_seq_k fun K15 k15 => ?_
  refine wp_seq_k fun K16 k16 => ?_
  by_cases hj1 : j < l.length
  · obtain ⟨x, hx_x⟩ : ∃ x, l[j]'hj1 = x := ⟨_, rfl⟩
    obtain ⟨R2, hR2⟩ : ∃ R2, tree k0 (x :: S) = R2 := ⟨_, rfl⟩
    have hq : punOf R x = (R2, 0) := by rw [← hR, punOf_tree (by omega) (ha x (hx_x ▸ List.getElem_mem _)), hR2]
    refine wp_region_lit ?_
    refine sx_hv sv14 4 [(12, .int .i64 ((j : Int))), (13, .slice ax l.length cax), (14, .int .i64 ((l.length : Nat))), (15, .bool true)]
      ⟨ym r5, ym r5, ox_len (Try.underlying37) rfl rfl trivial (oy rfl rfl) (fun _ => rfl), ybt r7 (fun _ => rn_lss (decide_eq_true (by omega))), trivial⟩ fun a17 w17 g17 sv17 => ?_
    refine tl_nil ?_
    refine k16 _ _ ?_
    refine cx_ifT sv17 rfl rfl ?_
    refine wp_skip ?_
    refine k15 _ _ ?_
    refine wp_seq_k fun K18 k18 => ?_
    refine cx_block fun Q19 x19 y19 r19 o19 => ?_
    refine wp_seq_k fun K20 k20 => ?_
    replace HB2_2 := rw_kn g17 HB2_2
    replace HB4_3 := rw_kn g17 HB4_3
    replace HB6_8 := rw_kn g17 HB6_8
    replace hv := hv.kn g17
    replace hk7 := hk7.kn g17
    replace HG := grown_trans HG g17
    refine rx_tail (sv17.st w17) (by kernel_rfl) 10 [(19, Sp.is (.agg #[.slice ao R.length cap])), (20, Sp.is (.slice ax l.length cax)), (21, Sp.is (.int .i64 ((j : Int)))), (22, Sp.is (pk ((bO ax)) (oO ax + j * 1))), (23, Sp.is (.int .i64 x)), (24, Sp.puncF w17.heap.size (R2, (0 : Int))), (18, Sp.puncF w17.heap.size (R2, (0 : Int))), (25, Sp.ct w17.heap.size R2), (26, Sp.is (.int .i64 0)), (8, Sp.new w17.heap.size ([.slice none 0 0]) 34)] rfl (by kernel_rfl) (by kernel_rfl) (by kernel_rfl) [8] (by kernel_rfl)
      ⟨yl r6 (tyT (.slice ao R.length cap) rfl) HB6_8, ym r5, ym r5, ox_index rfl rfl trivial (oy rfl rfl) (oy rfl rfl) (fun w => ix_sl Try.underlying37 (by kernel_rfl) (hv.1) (by omega) (rfl) w) (fun _ => rfl), ox_load rfl rfl trivial (oy rfl rfl) (fun _ g => loadsAt (tyInt64 x) (by rw [← hx_x]; exact el_range (hv.kn g).1 ce_len hj1 (by decide))) (fun _ => rfl), ox_call (Sp.puncF w17.heap.size (R2, (0 : Int))) [.agg #[.slice ao R.length cap], .int .i64 x] rfl rfl trivial ⟨(oy rfl rfl), (oy rfl rfl), trivial⟩ (punct_onF hq hk7.1) (fun _ _ h => h) (enter_of Try.func24 (by kernel_rfl) rfl), ym r5, ox_extract rfl rfl rfl trivial (fun w u h => puncF_tree w u h), ox_extract rfl rfl rfl trivial (fun w u h => puncF_err w u h), ox_alloc rfl trivial (Nat.le_refl _) (fun a w => by kernel_rfl) (fun _ _ h => h), trivial⟩ ⟨fun o ho => by obtain rfl := Option.some.inj ho; exact px_extract rfl rfl rfl trivial (fun w u h => puncF_err w u h), trivial⟩
      [8] (by kernel_rfl) ⟨Sp.new_lt, trivial⟩ ⟨.inl rfl, .inl rfl, .inl rfl, .inl rfl, .inl rfl, .inl rfl, .inl rfl, .inl rfl, .inl rfl, .inr ⟨rfl, ([.slice none 0 0]).toArray, 34, fun a w => by kernel_rfl⟩, trivial⟩ (by kernel_rfl) fun a21 w21 g21 st21 nd21 => ?_
    obtain ⟨hn21, hd21, e21_19, e21_20, e21_21, e21_22, e21_23, e21_24, e21_18, e21_25, e21_26, e21_8, e21_12, e21_13, e21_14, e21_15, e21_7, e21_6, e21_4, e21_2, e21_0, e21_1, e21_11, -⟩ := st21
    obtain ⟨ao22, cap22, e21_25q, hk22, fr22⟩ := e21_25
    obtain ⟨B8_21, e21_8q, ge_B8_21, HB8_21⟩ := e21_8
    have ne_B8_21_B2_2 := nh_ne HB2_2 ge_B8_21
    have ne_B8_21_B4_3 := nh_ne HB4_3 ge_B8_21
    have ne_B8_21_B6_8 := nh_ne HB6_8 ge_B8_21
    have lo_B8_21 := nh_lo HG ge_B8_21
    have ap_hv_B8_21 := nh_ap (hv.lt) ge_B8_21
    have ap_hk7_B8_21 := nh_ap (hk7.lt) ge_B8_21
    have ap_hk22_B2_2 := fr_ap fr22 HB2_2
    have ap_hk22_B4_3 := fr_ap fr22 HB4_3
    have ap_hk22_B6_8 := fr_ap fr22 HB6_8
    have lo_hk22 : ∀ k, fpT (.slice ao22 R2.length cap22) k → w.heap.size ≤ k := fun k hk => Nat.le_trans HG.size (fr22 k hk)
    replace HB2_2 := rw_kn g21 HB2_2
    replace HB4_3 := rw_kn g21 HB4_3
    replace HB6_8 := rw_kn g21 HB6_8
    replace hv := hv.kn g21
    replace hk7 := hk7.kn g21
    replace HG := grown_trans HG g21
    have ap_hk22_B8_21 := hk22.2.ap HB8_21 (by decide)
    have sv21 : Sv 32 [] [(12, _), (13, _), (14, _), (15, _), (7, _), (6, _), (4, _), (2, _), (0, _), (1, _), (11, _), (25, _), (26, _), (8, _)] a21 := ⟨hn21, hd21, e21_12, e21_13, e21_14, e21_15, e21_7, e21_6, e21_4, e21_2, e21_0, e21_1, e21_11, e21_25q, e21_26, e21_8q, trivial⟩
    refine tl_sw sv21 r7 (tyT (.slice ao22 R2.length cap22) rfl) HB8_21 rfl fun w23 g23 h23 => ?_
    replace HB2_2 := rw_st g23 HB2_2 (Ne.symm ne_B8_21_B2_2)
    replace HB4_3 := rw_st g23 HB4_3 (Ne.symm ne_B8_21_B4_3)
    replace HB6_8 := rw_st g23 HB6_8 (Ne.symm ne_B8_21_B6_8)
    replace hv := hv.offR g23 (no_b ap_hv_B8_21)
    replace hk7 := hk7.offR g23 (no_b ap_hk7_B8_21)
    replace hk22 := hk22.offR g23 (no_b ap_hk22_B8_21)
    replace HG := grown_newR HG g23 lo_B8_21
    replace HB8_21 := h23
    refine tl_as (v := .int .i64 0) sv21 r6 fun a24 sv24 => ?_
    refine tl_nil ?_
    refine k20 _ _ ?_
    refine wp_seq_k fun K25 k25 => ?_
    refine wp_seq_k fun K26 k26 => ?_
    refine wp_region_lit ?_
    refine sx_hv sv24 2 [(27, .int .i64 0), (28, .bool false)]
      ⟨ym r5, ybc r6 (fun _ => rn_neq rfl), trivial⟩ fun a27 w27 g27 sv27 => ?_
    refine tl_nil ?_
    refine k26 _ _ ?_
    refine cx_ifF sv27 rfl rfl ?_
    refine wp_skip ?_
    refine k25 _ _ ?_
    refine wp_region_lit ?_
    refine sx_hv sv27 1 [(30, .agg #[.slice ao22 R2.length cap22])]
      ⟨yl r6 (tyT (.slice ao22 R2.length cap22) rfl) (rw_kn g27 HB8_21), trivial⟩ fun a28 w28 g28 sv28 => ?_
    have gc28 := grown_trans g27 g28
    refine tl_sw sv28 r7 (tyT (.slice ao22 R2.length cap22) rfl) (rw_kn gc28 HB6_8) rfl fun w29 g29 h29 => ?_
    replace HB2_2 := rw_s2 gc28 g29 HB2_2 (Ne.symm ne_B6_8_B2_2)
    replace HB4_3 := rw_s2 gc28 g29 HB4_3 (Ne.symm ne_B6_8_B4_3)
    replace HB8_21 := rw_s2 gc28 g29 HB8_21 ne_B8_21_B6_8
    replace hv := (hv.kn gc28).offR g29 (no_b ap_hv_B6_8)
    replace hk7 := (hk7.kn gc28).offR g29 (no_b ap_hk7_B6_8)
    replace hk22 := (hk22.kn gc28).offR g29 (no_b ap_hk22_B6_8)
    replace HG := grown_newR (grown_trans HG gc28) g29 lo_B6_8
    replace HB6_8 := h29
    refine tl_nil ?_
    refine y19 _ _ ?_
    refine k18 _ _ ?_
    refine wp_region_lit ?_
    refine sx_hv sv28 2 [(16, .int .i64 ((j : Int))), (17, .int .i64 (((j + 1 : Nat) : Int)))]
      ⟨ym r5, ybc r6 (fun _ => rn_add (by rw [wrap_i64 (by omega) (by omega)]; omega)), trivial⟩ fun a30 w30 g30 sv30 => ?_
    refine tl_as (v := .int .i64 (((j + 1 : Nat) : Int))) sv30 r6 fun a31 sv31 => ?_
    refine tl_nil ?_
    replace HB2_2 := rw_kn g30 HB2_2
    replace HB4_3 := rw_kn g30 HB4_3
    replace HB6_8 := rw_kn g30 HB6_8
    replace HB8_21 := rw_kn g30 HB8_21
    replace hv := hv.kn g30
    replace hk7 := hk7.kn g30
    replace hk22 := hk22.kn g30
    replace HG := grown_trans HG g30
    exact ⟨⟨j + 1, x :: S, ao22, cap22, R2, by omega, by simp; omega, pt_succ hx_x hS, hR2, lo_hk22, ⟨sv31.1, sv31.2.1, sv31.2.2.1, sv31.2.2.2.2.2.2.2.2.2.2.2.2.2.1, sv31.2.2.2.2.2.2.2.2.2.2.2.2.2.2.1, sv31.2.2.2.2.2.2.2.2.2.2.2.2.2.2.2.1, sv31.2.2.2.2.2.2.2.2.2.2.2.2.2.2.2.2.1, sv31.2.2.2.2.2.2.2.2.2.2.2.2.2.2.2.2.2.1, sv31.2.2.2.2.2.2.2.2.2.2.2.2.2.2.2.2.2.2.1, trivial⟩, HG, HB2_2, HB4_3, HB6_8, hv, hk22, ap_hk22_B2_2, ap_hk22_B4_3, ap_hk22_B6_8⟩, by rw [show _ = _ from sv31.2.2.1, show _ = _ from sv14.2.2.1]; simp [intOf]; omega⟩
  · have hRT : R = T := hR.symm.trans (tree_mem hT fun a => by rw [hS, List.take_of_length_le (by omega)])
    refine wp_region_lit ?_
    refine sx_hv sv14 4 [(12, .int .i64 ((j : Int))), (13, .slice ax l.length cax), (14, .int .i64 ((l.length : Nat))), (15, .bool false)]
      ⟨ym r5, ym r5, ox_len (Try.underlying37) rfl rfl trivial (oy rfl rfl) (fun _ => rfl), ybt r7 (fun _ => rn_lss (decide_eq_false (by omega))), trivial⟩ fun a32 w32 g32 sv32 => ?_
    refine tl_nil ?_
    refine k16 _ _ ?_
    refine cx_ifF sv32 rfl rfl ?_
    refine wp_exit ?_
    repeat refine then_exit ?_
    refine x13 _ _ ?_
    refine k10 _ _ ?_
    refine wp_seq_k fun K33 k33 => ?_
    refine wp_region_lit ?_
    refine sx_hv sv32 1 [(31, .agg #[.slice ao R.length cap])]
      ⟨yl r6 (tyT (.slice ao R.length cap) rfl) (rw_kn g32 HB6_8), trivial⟩ fun a34 w34 g34 sv34 => ?_
    have gc34 := grown_trans g32 g34
    refine tl_sw sv34 r7 (tyT (.slice ao R.length cap) rfl) (rw_kn gc34 HB4_3) rfl fun w35 g35 h35 => ?_
    replace HB2_2 := rw_s2 gc34 g35 HB2_2 (Ne.symm ne_B4_3_B2_2)
    replace HB6_8 := rw_s2 gc34 g35 HB6_8 ne_B6_8_B4_3
    replace hv := (hv.kn gc34).offR g35 (no_b ap_hv_B4_3)
    replace hk7 := (hk7.kn gc34).offR g35 (no_b ap_hk7_B4_3)
    replace HG := grown_newR (grown_trans HG gc34) g35 lo_B4_3
    replace HB4_3 := h35
    refine tl_as (v := .bool true) sv34 r6 fun a36 sv36 => ?_
    refine tl_nil ?_
    refine k33 _ _ ?_
    refine wp_ret ?_
    repeat refine then_ret ?_
    refine cx_ret (fn := Try.f29) sv36 (res_ct (p := 4) (q := 5) Try.results29 sv36 rfl rfl rfl rfl (tyT (.slice ao R.length cap) rfl) HB4_3) ?_
    rw [← hRT]
    exact ⟨_, _, rfl, hk7, hlo, HG⟩
/-- punctured, as laws call it: the tree tells itself apart by its blocks -/
def Sp.ptg (B : Nat) (l : List Nd) : Sp := ⟨fun w v => ∃ ao cap, v = .tuple #[.agg #[.slice ao l.length cap], .bool true] ∧ RdTg w (.slice ao l.length cap) l ∧ ∀ k, fpT (.slice ao l.length cap) k → B ≤ k, fun _ _ _ hg ⟨ao, cap, h1, h2, h3⟩ => ⟨ao, cap, h1, h2.kn hg, h3⟩⟩
theorem ptg_tree {B : Nat} {l : List Nd} (w : World) (u : Value) (h : (Sp.ptg B l).on w u) : ∃ vs v, u = .tuple vs ∧ vs[0]? = some v ∧ (Sp.ct B l).on w v := by
  obtain ⟨ao, cap, h1, h2, h3⟩ := h
  exact ⟨_, _, h1, rfl, ao, cap, rfl, h2, h3⟩
theorem ptg_ok {B : Nat} {l : List Nd} (w : World) (u : Value) (h : (Sp.ptg B l).on w u) : ∃ vs v, u = .tuple vs ∧ vs[1]? = some v ∧ (Sp.is (.bool true)).on w v := by
  obtain ⟨ao, cap, h1, h2, h3⟩ := h
  exact ⟨_, _, h1, rfl, rfl⟩
theorem ptg_on {w0 : World} {k : List Nat} (hk : Dg k) {l : List Int} {ao : Option Addr} {cap : Nat} {T : List Nd} (hT : tree k l = T) (hv : SlB w0 1 (.slice ao l.length cap) l.length (l.flatMap ce)) (hl : l.length ≤ 800) (ha : ∀ a ∈ l, isAddr a = true) : ∀ W, w0.grownBy W none → Calls Try.prog 29 #[dval k, .slice ao l.length cap] W fun e W' => ∃ u, e = .returned u ∧ W.grownBy W' none ∧ (Sp.ptg w0.heap.size T).on W' u := fun W g =>
  (ptg_walk k hk l ao cap T hT hl ha W (hv.kn g)).mono fun e W' ⟨ao, cap, h1, h2, h3, h4⟩ => ⟨_, h1, h4, ao, cap, rfl, h2, fun k hk => Nat.le_trans g.size (h3 k hk)⟩
end Go.Proofs.Yteakoleceoclkaa
