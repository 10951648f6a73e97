/- Key trees: the law KeytreeCount. (printed by genlaws.py) -/
import Derived.Test.YteakoleceoclkaaL7
namespace Go.Proofs.Yteakoleceoclkaa
open Go.RowKit Go.Shelf
set_option linter.unusedSimpArgs false
set_option linter.unusedVariables false
attribute [local go_sem] Oper.semAt_some
set_option maxRecDepth 100000 in
set_option maxHeartbeats 4000000 in
theorem count_walk (k : List Nat) (hk : Dg k) (l : List Int) (v : Value) (w : World) (hv : Sl w 1 v l.length (ic l)) :
    Calls Try.prog 10 #[dval k, v] w fun e w' => e = .returned (.bool true) ∧ w.grownBy w' none := by
  have HK := hid hk
  obtain ⟨A, hA⟩ : ∃ A, A = difs 8 [] l := ⟨_, rfl⟩
  have HAA := hid (show ∀ a ∈ A, isAddr a = true by rw [hA]; exact difs_addr 8 l [] (by simp))
  have hAl : A.length ≤ 8 := by rw [hA]; exact difs_len 8 l [] (by simp)
  have HAL := hid (show A.length ≤ 800 by omega)
  have HND := hid (show A.Nodup by rw [hA]; exact difs_nodup 8 l [] List.nodup_nil)
  have DC := hid (fun (W : World) (g : w.grownBy W none) => (show Calls Try.prog 28 #[v, .int .i64 8] W fun e w' => ∃ ao cap, e = .returned (.slice ao A.length cap) ∧ Own w' 2 1 (.slice ao A.length cap) A.length (ic A) ∧ Fresh W w' (.slice ao A.length cap) from by
    subst hA
    exact different_walk l v 8 (by decide) W (hv.kn g) (by obtain ⟨_, _, _, h1, h2⟩ := hv.shape; omega)))
  have PC := hid (fun (W : World) (s : Value) (h : Sl W 1 s A.length (ic A)) => punctured_walk k hk A s W h (by omega) HAA.out)
  obtain ⟨C, hC⟩ : ∃ C, C = bv k := ⟨_, rfl⟩
  have TD := hid (show TY Try.prog 29 C (.agg C.toArray) by rw [hC]; exact tyD k hk.1)
  have NC := hid (fun W => new_call (w := W) hk)
  unfold dval at NC PC ⊢
  rw [← hC] at NC PC ⊢
  obtain ⟨m, hm⟩ : ∃ m, m = A.length := ⟨_, rfl⟩
  rw [← hm] at PC DC hAl
  have HM := hid hm
  clear hk hA hC hm
  go_enter Try.func10, Try.ntmps10
  refine wp_seq_k fun K0 k0 => ?_
  have HK0 := hid k0
  clear k0
  go_wp2
  refine HK0.out _ _ ?_
  clear HK0
  refine pauseB1 fun W GW B0 => ?_
  refine wp_seq_k fun K1 k1 => ?_
  have HK1 := hid k1
  clear k1
  go_wp2_with fail
  refine (DC.out _ GW.out).mono ?_
  rintro e W1 ⟨ao1, cap1, rfl, h1, h2⟩
  have OA := hid h1
  have FA := hid (Fresh.after GW.out h2)
  replace B0 := hid (row_of h2.none B0.out (by simp))
  clear h1 h2 DC GW
  go_wp2_with fail
  refine HK1.out _ _ ?_
  clear HK1
  refine wp_seq_k fun K2 k2 => ?_
  have HK2 := hid k2
  clear k2
  go_wp2_with (first
    | (refine wpList_loadTY rfl 29 (.tmp 2) rfl rfl TD.out B0.out ?_)
    | fail)
  refine (PC.out _ _ (Sl.of_own OA.out)).mono ?_
  rintro e W2 ⟨ao2, cap2, rfl, h2, g2⟩
  obtain ⟨n2, hn2⟩ : ∃ n, n = (tree k A).length := ⟨_, rfl⟩
  rw [← hn2] at h2 ⊢
  have T2 := hid h2
  have HN2 := hid hn2
  replace OA := hid (OA.out.kn g2)
  replace FA := hid (Fresh.then_ FA.out g2)
  replace B0 := hid (row_of g2 B0.out (by simp))
  clear h2 g2 hn2
  obtain ⟨B, hB⟩ : ∃ x, x = W2.heap.size := ⟨_, rfl⟩
  have HBq := hid hB
  clear hB
  go_wp2_with (first
    | (refine wpList_storeTYg rfl 34 (.tmp 6) (.tmp 14) rfl rfl rfl (tyT (.slice ao2 n2 cap2) rfl) (heap_at rfl) rfl ?_; intro W3 g3 h3; rw [← HBq.out] at h3; have G3 := hid (grown_newR (World.grownBy_alloc W2 _ none) g3 (Nat.le_refl _)); have HB := hid h3; clear g3 h3)
    | fail)
  try go_frame
  rw [← HBq.out]
  replace T2 := hid (T2.out.kn G3.out)
  replace OA := hid (OA.out.kn G3.out)
  replace FA := hid (Fresh.then_ FA.out G3.out)
  replace B0 := hid (row_of G3.out B0.out (by simp))
  clear G3 HBq PC W1
  refine HK2.out _ _ ?_
  clear HK2
  have hvl := tree_vld_of k A (by have := HAL.out; omega)
  have hb : n2 ≤ max 1 (34 * m) := by
    have h1 := tree_len k A
    have h2 := cnt_le A (root k)
    rw [HN2.out, HM.out]
    split at h1 <;> omega
  obtain ⟨RT, hR⟩ : ∃ R, R = tree k A := ⟨_, rfl⟩
  rw [← hR] at hvl T2
  have HVL := hid hvl
  clear hvl hR HN2
  have cB : W3.cell? ⟨B, 0, none⟩ = some (.slice ao2 n2 cap2) := by rw [cell_of_row _ _ _ _ _ _ HB.out]; rfl
  have yB := block_lt_of_cell cB
  go_wp2_with fail
  refine (valid_call T2.out).mono ?_
  rintro e W4 ⟨rfl, g4⟩
  rw [HVL.out]
  have HB4 := hid (row_of g4 HB.out (by simp))
  have HG4 := hid (grown_trans FA.out.none g4)
  clear cB yB g4 HB T2
  have cB : W4.cell? ⟨B, 0, none⟩ = some (.slice ao2 n2 cap2) := by rw [cell_of_row _ _ _ _ _ _ HB4.out]; rfl
  have yB := block_lt_of_cell cB
  rcases Nat.eq_zero_or_pos m with hm0 | hm0
  · have hn1 : (n2 : Int) ≤ 1 := by omega
    have hm1 : (m : Int) = 0 := by omega
    have t0 : (34 : Int) * (m : Int) ≤ 1 := by omega
    have t2 : decide ((n2 : Int) ≤ 1) = true := decide_eq_true hn1
    clear hb hm0
    go_wp2_with fail
    refine (awake_walk W4).mono ?_
    rintro e W9 ⟨rfl, g9⟩
    go_wp2
    go_ret
    exact ⟨rfl, grown_trans HG4.out g9⟩
  · have hn1 : (n2 : Int) ≤ 34 * (m : Int) := by omega
    have t0 : ¬ (34 : Int) * (m : Int) ≤ 1 := by omega
    have t2 : decide ((n2 : Int) ≤ 34 * (m : Int)) = true := decide_eq_true hn1
    clear hb hm0
    go_wp2_with fail
    refine (awake_walk W4).mono ?_
    rintro e W9 ⟨rfl, g9⟩
    go_wp2
    go_ret
    exact ⟨rfl, grown_trans HG4.out g9⟩
end Go.Proofs.Yteakoleceoclkaa
