/- Key trees: the law KeytreeLeaves. -/
import Derived.Test.YteakoleceoclkaaK18
namespace Go.Proofs.Yteakoleceoclkaa
open Go.RowKit Go.Shelf
set_option linter.unusedSimpArgs false
set_option linter.unusedVariables false
attribute [local go_sem] Oper.semAt_some

set_option maxRecDepth 100000 in
set_option maxHeartbeats 4000000 in
theorem leaves_walk (k : List Nat) (hk : Dg k) (a : Int) (w : World) :
    Calls Try.prog 4 #[dval k, .int .i64 a] w fun e w' => e = .returned (.bool true) ∧ w.grownBy w' none := by
  have HK := hid hk
  obtain ⟨⟨K, er⟩, hr⟩ : ∃ r, leafOf (tree k []) a = r := ⟨_, rfl⟩
  have HR := hid hr
  have DK := hid (show Dg K by have h := leafOf_dg (tree_ok hk) a (l := tree k []); rw [hr] at h; exact h)
  obtain ⟨C, hC⟩ : ∃ C, C = bv k := ⟨_, rfl⟩
  have TD := hid (show TY Try.prog 29 C (.agg C.toArray) by rw [hC]; exact tyD k hk.1)
  have NC := hid (fun W => new_call (w := W) hk)
  have NR := hid (fun W => rnew_call (w := W) hk)
  unfold dval at NC NR ⊢
  rw [← hC] at NC NR ⊢
  clear hk hr hC
  go_enter Try.func4, Try.ntmps4
  refine wp_seq_k fun K0 k0 => ?_
  have HK0 := hid k0
  clear k0
  go_wp2
  refine HK0.out _ _ ?_
  clear HK0
  refine pauseB1 fun W GW B0 => ?_
  refine wp_seq_k fun K1 k1 => ?_
  have HK1 := hid k1
  clear k1
  go_wp2_with (first
    | (refine wpList_loadTY rfl 29 (.tmp 2) rfl rfl TD.out B0.out ?_)
    | fail)
  refine (NC.out _).mono ?_
  rintro e W1 ⟨ao1, cap1, rfl, h1, g1⟩
  have T1 := hid h1
  have G1 := hid (grown_trans GW.out g1)
  have B0 := hid (row_of g1 B0.out (by simp))
  clear h1 g1 GW
  go_wp2_with fail
  refine (leaf_call HR.out T1.out).mono ?_
  rintro e W2 ⟨rfl, g2⟩
  have G2 := hid (grown_trans G1.out g2)
  have B0 := hid (row_of g2 B0.out (by simp))
  clear g2 G1
  go_wp2_with (first
    | (refine wpList_storeTYg rfl 29 (.tmp 5) (.tmp 14) rfl rfl rfl (tyD K DK.out.1) (heap_at rfl) (by rw [bv_length, DK.out.1]; rfl) ?_; intro W3 g3 h3; have G3 := hid (grown_newR (World.grownBy_alloc W2 _ none) g3 (Nat.le_refl _)); have H3 := hid h3; clear g3 h3)
    | fail)
  try go_frame
  obtain ⟨B5, hB5⟩ : ∃ x, x = W2.heap.size := ⟨_, rfl⟩
  rw [← hB5] at H3 ⊢
  clear hB5
  have G4 := hid (grown_trans G2.out G3.out)
  have B0 := hid (row_of G3.out B0.out (by simp))
  clear G2 G3 T1
  refine HK1.out _ _ ?_
  clear HK1
  refine wp_seq_k fun K2 k2 => ?_
  have HK2 := hid k2
  clear k2
  go_wp2_with (first
    | (refine wpList_loadTY rfl 29 (.tmp 2) rfl rfl TD.out B0.out ?_)
    | fail)
  refine (NR.out _).mono ?_
  rintro e W4 ⟨ao2, cap2, rfl, h1, g1⟩
  have T2 := hid h1
  have G5 := hid (grown_trans G4.out g1)
  have H3 := hid (row_of g1 H3.out (by simp))
  clear h1 g1 G4 B0
  go_wp2_with fail
  refine (rleaf_call HR.out T2.out).mono ?_
  rintro e W5 ⟨rfl, g2⟩
  have G6 := hid (grown_trans G5.out g2)
  have H3 := hid (row_of g2 H3.out (by simp))
  clear g2 G5
  go_wp2_with (first
    | (refine wpList_storeTYg rfl 29 (.tmp 7) (.tmp 21) rfl rfl rfl (tyD K DK.out.1) (heap_at rfl) (by rw [bv_length, DK.out.1]; rfl) ?_; intro W6 g3 h3; have G7 := hid (grown_newR (World.grownBy_alloc W5 _ none) g3 (Nat.le_refl _)); have H7 := hid h3; clear g3 h3)
    | fail)
  try go_frame
  obtain ⟨B7, hB7⟩ : ∃ x, x = W5.heap.size := ⟨_, rfl⟩
  rw [← hB7] at H7 ⊢
  clear hB7
  have G8 := hid (grown_trans G6.out G7.out)
  have H3 := hid (row_of G7.out H3.out (by simp))
  clear G6 G7 T2
  refine HK2.out _ _ ?_
  clear HK2
  have AW := hid (awake_walk W6)
  go_wp2_with (first
    | (refine wpList_loadTY rfl 29 (.tmp 5) rfl rfl (tyD K DK.out.1) H3.out ?_)
    | (refine wpList_loadTY rfl 29 (.tmp 7) rfl rfl (tyD K DK.out.1) H7.out ?_)
    | (refine wpList_binG rfl .eql 29 29 (.tmp 23) (.tmp 24) rfl rfl rfl (dig_same K DK.out _ _ _) ?_)
    | fail)
  refine AW.out.mono ?_
  rintro e W7 ⟨rfl, g7⟩
  go_wp2
  go_ret
  exact ⟨rfl, grown_trans G8.out g7⟩
end Go.Proofs.Yteakoleceoclkaa
