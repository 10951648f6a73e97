/- Key trees: punctured of the laws. (printed by gen_k22.py) -/
import Derived.Test.YteakoleceoclkaaQ8
namespace Go.Proofs.Yteakoleceoclkaa
open Go.RowKit Go.Shelf
set_option linter.unusedSimpArgs false
set_option linter.unusedVariables false
attribute [local go_sem] Oper.semAt_some

theorem punOf_next {k : List Nat} {l : List Int} {j : Nat} (hj : j < l.length) (hl : l.length ≤ 800) (ha : ∀ a ∈ l, isAddr a = true) : punOf (tree k (l.take j).reverse) l[j] = (tree k (l.take (j + 1)).reverse, 0) := by
  rw [punOf_tree (by rw [List.length_reverse, List.length_take]; omega) (ha _ (List.getElem_mem hj)), List.take_succ_eq_append_getElem hj, List.reverse_append]
  rfl
theorem tree_rev (k : List Nat) (l : List Int) : tree k l.reverse = tree k l := cover_congr (fun a => List.mem_reverse) 34 _
/-- what punctured hands out -/
def PtdC (w : World) (l : List Nd) (e : Ending) (w' : World) : Prop := ∃ ao cap, e = .returned (.tuple #[.agg #[.slice ao l.length cap], .bool true]) ∧ RdT w' (.slice ao l.length cap) l ∧ w.grownBy w' none
theorem bT0' (w : World) : (Instr.build 34 #[]).run Try.prog w = .ok (.agg #[.slice none 0 0]) w := by kernel_rfl
set_option maxRecDepth 100000 in
set_option maxHeartbeats 4000000 in
theorem punctured_walk (k : List Nat) (hk : Dg k) (l : List Int) (v : Value) (w : World) (hv : Sl w 1 v l.length (ic l)) (hl : l.length ≤ 800) (ha : ∀ a ∈ l, isAddr a = true) :
    Calls Try.prog 29 #[dval k, v] w (PtdC w (tree k l)) := by
  have HK := hid hk
  obtain ⟨ao, cap, rfl, p1, p2⟩ := hv.shape
  have HV := hid hv
  have HA := hid ha
  have HL := hid hl
  obtain ⟨m, hm⟩ : ∃ m, m = l.length := ⟨_, rfl⟩
  have HM := hid hm
  have hm2 : m ≤ 800 := by rw [hm]; exact hl
  rw [← hm] at HV p1 ⊢
  obtain ⟨C, hC⟩ : ∃ C, C = bv k := ⟨_, rfl⟩
  have TD := hid (show TY Try.prog 29 C (.agg C.toArray) by rw [hC]; exact tyD k hk.1)
  have NC := hid (fun W => new_call (w := W) hk)
  unfold dval at NC ⊢
  rw [← hC] at NC ⊢
  obtain ⟨w1, hw1⟩ : ∃ x, x = (w.alloc (.cells C.toArray 29)).alloc (.cells #[.slice none 0 0] 34) := ⟨_, rfl⟩
  have HG := hid (show w.grownBy w1 none by rw [hw1]; exact grown_trans (World.grownBy_alloc _ _ _) (World.grownBy_alloc _ _ _))
  have Z0 := hid (show w1.heap[w.heap.size]? = some (.cells C.toArray 29 (0, 0)) by rw [hw1, heap_past (by simp <;> omega), heap_at (by simp <;> omega)])
  have Z1 := hid (show w1.heap[w.heap.size + 1]? = some (.cells #[.slice none 0 0] 34 (0, 0)) by rw [hw1, heap_at (by simp)])
  have HSW := hid (show w1.heap.size = w.heap.size + 2 by rw [hw1]; simp)
  have HW := hid hw1
  clear hk hv hl ha hm hC hw1
  go_enter Try.func29, Try.ntmps29
  refine wp_seq_k fun K0 k0 => ?_
  have HK0 := hid k0
  clear k0
  go_wp2
  refine HK0.out _ _ ?_
  clear HK0
  rw [← HW.out]
  clear HW
  refine wp_seq_k fun K1 k1 => ?_
  have HK1 := hid k1
  clear k1
  go_wp2_with (first
    | (refine wpList_loadTY rfl 29 (.tmp 2) rfl rfl TD.out Z0.out ?_)
    | fail)
  refine (NC.out _).mono ?_
  rintro e W1 ⟨ao1, cap1, rfl, h1, g1⟩
  have T1 := hid h1
  have Z1 := hid (row_of g1 Z1.out (by simp))
  have HG := hid (grown_trans HG.out g1)
  have HS1 := hid (show w.heap.size + 2 ≤ W1.heap.size from by rw [← HSW.out]; exact g1.size)
  clear h1 g1 Z0
  obtain ⟨B, hB⟩ : ∃ x, x = W1.heap.size := ⟨_, rfl⟩
  have HB := hid hB
  clear hB
  go_wp2_with (first
    | (refine wpList_storeTYg rfl 34 (.tmp 6) (.tmp 11) rfl rfl rfl (tyT (.slice ao1 1 cap1) rfl) (heap_at rfl) rfl ?_; intro W2 g2 h2; rw [← HB.out] at h2; have G2 := hid (grown_newR (World.grownBy_alloc W1 _ none) g2 (Nat.le_refl _)); have H2 := hid h2; clear g2 h2)
    | fail)
  try go_frame
  rw [← HB.out]
  have Z1 := hid (row_of G2.out Z1.out (by simp))
  have HBw := hid (show w.heap.size + 2 ≤ B from by rw [HB.out]; exact HS1.out)
  have HG2 := hid (grown_trans HG.out G2.out)
  have T2 := hid (T1.out.kn G2.out)
  clear T1 G2
  refine HK1.out _ _ ?_
  clear HK1
  go_wp2
  go_loopw [7, 8, 9] (fun i p q wr => ∃ (j : Nat) (a2 : Option Addr) (n2 c2 : Nat), j ≤ m ∧ i = .int .i64 j ∧ n2 = (tree k (l.take j).reverse).length ∧ Hid (w.grownBy wr none) ∧ Hid (wr.heap[w.heap.size + 1]? = some (.cells #[.slice none 0 0] 34 (0, 0))) ∧ Hid (wr.heap[B]? = some (.cells #[.slice a2 n2 c2] 34 (0, 0))) ∧ Hid (RdT wr (.slice a2 n2 c2) (tree k (l.take j).reverse))) (fun i _ _ _ => (m - intOf i).toNat)
  case atStart => exact ⟨0, ao1, 1, cap1, by omega, rfl, by rw [List.take_zero, List.reverse_nil, tree_nil]; rfl, HG2, Z1, H2, hid (by rw [List.take_zero, List.reverse_nil]; exact T2.out)⟩
  case round =>
    clear HG2 Z1 H2 T2
    obtain ⟨j, a2, n2, c2, hj, rfl, hn2, HGR, HZ1, HT, HR⟩ := hrel
    have HN2 := hid hn2
    clear hn2
    by_cases hlt : j < m
    · have hjl : j < l.length := by rw [← HM.out]; exact hlt
      have t1 : decide (j < m) = true := by simp; omega
      obtain ⟨b, off, rfl, hc⟩ := irange HV.out hjl
      obtain ⟨x, hx⟩ : ∃ x, x = l[j] := ⟨_, rfl⟩
      rw [← hx] at hc
      have HC := hid (HGR.out.cell hc (by simp))
      have PO := hid (punOf_next (k := k) hjl HL.out HA.out)
      rw [← hx] at PO
      obtain ⟨RT, hR⟩ : ∃ R, R = tree k (l.take (j + 1)).reverse := ⟨_, rfl⟩
      rw [← hR] at PO
      have HRq := hid hR
      have i0 : (0 : Int) ≤ (j : Int) := by omega
      have i1 : (j : Int) < (m : Int) := by omega
      clear hc hjl hx hR
      go_wp2
      refine region_tailU (by kernel_rfl) 32 rfl 10 [none, none, none, none, none, none, none, none, some (Sp.new wr.heap.size [.slice none 0 0] 34), none, none, none, none, none, none, none, none, none, some (Sp.punc (RT, (0 : Int))), some (Sp.is (.agg #[.slice a2 n2 c2])), some (Sp.is (.slice (some ⟨b, off, none⟩) m cap)), some (Sp.is (.int .i64 (j : Int))), some (Sp.is (.pointer (some ⟨b, off + j, none⟩))), some (Sp.is (.int .i64 x)), some (Sp.punc (RT, (0 : Int))), some (Sp.tree (RT, (0 : Int))), some (Sp.is (.int .i64 ((RT, (0 : Int))).2)), none, none, none, none, none] (by kernel_rfl) (by kernel_rfl)
        ⟨ob_loadT rfl rfl trivial ⟨by decide, fun _ _ h => h⟩ (fun w' g => loadsAt (tyT (.slice a2 n2 c2) rfl) (rangeAt_row (row_of g HT.out (by simp)))) (fun _ => rfl),
         ob_move 1 20 rfl rfl (by decide) trivial (fun _ _ h => h),
         ob_move 7 21 rfl rfl (by decide) trivial (fun _ _ h => h),
         ob_index (p := .slice (some ⟨b, off, none⟩) m cap) (k := .int .i64 (j : Int)) (v := .pointer (some ⟨b, off + j, none⟩)) rfl rfl trivial ⟨by decide, fun _ _ h => h⟩ ⟨by decide, fun _ _ h => h⟩ (fun _ => by go_simp) (fun _ => rfl),
         ob_loadT rfl rfl trivial ⟨by decide, fun _ _ h => h⟩ (fun w' g => loadsAt (tyI x) (rangeAt_one (g.cell HC.out (by simp)))) (fun _ => rfl),
         ob_callS (Sp.punc (RT, (0 : Int))) [.agg #[.slice a2 n2 c2], .int .i64 x] rfl rfl trivial ⟨⟨by decide, fun _ _ h => h⟩, ⟨by decide, fun _ _ h => h⟩, trivial⟩ (punct_on PO.out HR.out) (fun _ _ h => h) (enter_of Try.func24 (by kernel_rfl) rfl),
         ob_move 24 18 rfl rfl (by decide) trivial (fun _ _ h => h),
         ob_extract rfl rfl (by decide) trivial (fun w u h => punc_tree w u h),
         ob_extract rfl rfl (by decide) trivial (fun w u h => punc_err w u h),
         ob_alloc rfl trivial (Nat.le_refl _) (fun a w => by kernel_rfl) (fun _ _ h => h), trivial⟩
        [8] (by kernel_rfl) (LaysAll.at ⟨.inl rfl, .inl rfl, .inl rfl, .inl rfl, .inl rfl, .inl rfl, .inl rfl, .inl rfl, .inl rfl, .inr ⟨rfl, #[.slice none 0 0], 34, fun a w => by kernel_rfl⟩, trivial⟩) (fun t ht => by simp at ht; subst ht; exact ⟨_, rfl, Sp.new_lt⟩)
        [8] (by kernel_rfl) (fun _ _ d _ _ h => by cases d <;> exact h) (by kernel_rfl) (fun i hi o ho a w hg hl hs => by obtain rfl := List.mem_singleton.1 hi; obtain rfl := Option.some.inj ho; exact pu_extract (n := 32) rfl rfl (by decide) rfl hl (fun w u h => punc_err w u h)) ?_
      intro xx W3 g3 hx _
      obtain ⟨A8, e8, b8, h8⟩ := hx 8 _ rfl (by decide)
      have e19 : xx 19 = .agg #[.slice a2 n2 c2] := hx 19 _ rfl (by decide)
      have e20 : xx 20 = .slice (some ⟨b, off, none⟩) m cap := hx 20 _ rfl (by decide)
      have e21 : xx 21 = .int .i64 (j : Int) := hx 21 _ rfl (by decide)
      have e22 : xx 22 = .pointer (some ⟨b, off + j, none⟩) := hx 22 _ rfl (by decide)
      have e23 : xx 23 = .int .i64 x := hx 23 _ rfl (by decide)
      have e26 : xx 26 = .int .i64 ((RT, (0 : Int))).2 := hx 26 _ rfl (by decide)
      obtain ⟨ao5, cap5, e25, t5⟩ := hx 25 _ rfl (by decide)
      simp only [fillO]
      rw [e8, e19, e20, e21, e22, e23, e25, e26]
      generalize xx 24 = z1 at *
      generalize xx 18 = z2 at *
      have H8 := hid h8
      have NB8 := hid b8
      have T5 := hid t5
      have GG3 := hid g3
      clear hx e8 b8 h8 t5 g3 e19 e20 e21 e22 e23 e25 e26
      simp only [List.drop_succ_cons, List.drop_zero]
      go_wp2_with (first
        | (refine wpList_storeTYg rfl 34 (.tmp 8) (.tmp 25) rfl rfl rfl (tyT (.slice ao5 ((RT, (0 : Int))).1.length cap5) rfl) H8.out rfl ?_; intro W5 g5 h5; have G5 := hid (grown_newR GG3.out g5 NB8.out); have TT5 := hid (And.intro g5 h5); clear g5 h5)
        | (refine wpList_loadTY rfl 34 (.tmp 8) rfl rfl (tyT (.slice ao5 RT.length cap5) rfl) TT5.out.2 ?_)
        | (refine wpList_storeTYg rfl 34 (.tmp 6) (.tmp 30) rfl rfl rfl (tyT (.slice ao5 RT.length cap5) rfl) (row_of G5.out HT.out (by simp)) rfl ?_; intro W6 g6 h6; have G6 := hid g6; have H6 := hid h6; clear g6 h6)
        | fail)
      have NN := hid (show A8 ≠ B from by
        have h1 := (Array.getElem?_eq_some_iff.1 HT.out).1
        have h2 := NB8.out
        omega)
      have HT5 := hid (row_of G5.out HT.out (by simp))
      have HZ5 := hid (row_of G5.out HZ1.out (by simp))
      have RT5 := hid (RdT.aside T5.out H8.out (fun _ _ => by simp) TT5.out.1)
      have NB1 := HBw.out
      try go_frame
      go_roundw
      case rel => exact ⟨j + 1, ao5, RT.length, cap5, by omega, by go_num, by rw [HRq.out], hid (grown_newR (grown_trans HGR.out G5.out) G6.out (by omega)), hid (row_of G6.out HZ5.out (by simp; omega)), H6, hid (by rw [← HRq.out]; exact RdT.aside RT5.out HT5.out (fun _ _ => by simp) G6.out)⟩
      case measure => simp [intOf] <;> omega
    · obtain rfl : j = m := by omega
      have t1 : decide (j < j) = false := by simp
      have HTR := hid (show tree k (l.take j).reverse = tree k l from by rw [List.take_of_length_le (by rw [← HM.out]; exact Nat.le_refl _), tree_rev])
      have cB : wr.cell? ⟨B, 0, none⟩ = some (.slice a2 n2 c2) := by rw [cell_of_row _ _ _ _ _ _ HT.out]; rfl
      have yB := block_lt_of_cell cB
      go_wp2_with (first
        | (refine wpList_loadTY rfl 34 (.tmp 6) rfl rfl (tyT (.slice a2 n2 c2) rfl) HT.out ?_)
        | (refine wpList_storeTYg rfl 34 (.tmp 4) (.tmp 31) rfl rfl rfl (tyT (.slice a2 n2 c2) rfl) HZ1.out rfl ?_; intro W6 g6 h6; have G6 := hid g6; have H6 := hid h6; clear g6 h6)
        | fail)
      have RT6 := RdT.aside HR.out HZ1.out (fun _ _ => by simp) G6.out
      rw [HTR.out] at RT6
      have hn2 := HN2.out
      rw [HTR.out] at hn2
      subst hn2
      exact bodyPost_ret (results_ct (p := 4) (q := 5) (b0 := w.heap.size + 1) rfl rfl rfl (tyT (.slice a2 _ c2) rfl) H6.out) rfl ⟨a2, c2, rfl, RT6, grown_newR HGR.out G6.out (by omega)⟩
end Go.Proofs.Yteakoleceoclkaa
