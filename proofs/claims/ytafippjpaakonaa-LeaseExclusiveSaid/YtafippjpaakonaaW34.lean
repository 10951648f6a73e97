/- Leases: the law LeaseExclusive. (printed by gen_w34.py) -/
import Derived.Test.YtafippjpaakonaaW35
namespace Go.Proofs.Ytafippjpaakonaa
open Go.RowKit
set_option linter.unusedSimpArgs false
set_option linter.unusedVariables false

set_option maxRecDepth 100000 in
set_option maxHeartbeats 8000000 in
theorem exclusive_walk (l : List Ac) (s : Value) (a : Ac) (o0 o1 o2 : Int) (w : World) (hA : RdA w s l) :
    Calls Try.prog 5 #[s, aval a, .agg #[.int .i64 o0, .int .i64 o1, .int .i64 o2]] w fun e w' => e = .returned (.bool true) ∧ w.grownBy w' none := by
  obtain ⟨kd, n, ho, tk, now, d⟩ := a
  obtain ⟨ao, cap, rfl, hc1, hc2⟩ := Sl.shape hA
  have HRa := hid hA
  clear hA
  unfold aval
  obtain ⟨⟨next, ls⟩, ht⟩ : ∃ q, mk l = q := ⟨_, rfl⟩
  have hl30 := (mk_ok l).2
  rw [ht] at hl30
  have hls : ls.length ≤ 1000000 := Nat.le_trans hl30 (by decide)
  have HT := hid ht
  clear ht hl30
  obtain ⟨B0, hB0⟩ : ∃ x, x = w.heap.size := ⟨_, rfl⟩
  obtain ⟨B9, hB9⟩ : ∃ x, x = w.heap.size + 1 := ⟨_, rfl⟩
  obtain ⟨W1, hW⟩ : ∃ x, x = ((w.alloc (.cells #[.int .i64 kd, .int .i64 n, .int .i64 ho, .int .i64 tk, .int .i64 now, .int .i64 d] 35)).alloc (.cells #[.int .i64 o0, .int .i64 o1, .int .i64 o2] 43)) := ⟨_, rfl⟩
  have A1 := hid (show w.grownBy W1 none from by rw [hW]; (repeat (first | exact World.grownBy.refl _ _ | refine grown_trans ?_ (World.grownBy_alloc _ _ _))))
  have HB0 := hid (show W1.heap[B0]? = some (.cells #[.int .i64 kd, .int .i64 n, .int .i64 ho, .int .i64 tk, .int .i64 now, .int .i64 d] 35 (0, 0)) from by rw [hW, hB0]; rw [heap_past (by simp <;> omega), heap_at (by simp <;> omega)])
  have HB9 := hid (show W1.heap[B9]? = some (.cells #[.int .i64 o0, .int .i64 o1, .int .i64 o2] 43 (0, 0)) from by rw [hW, hB9]; rw [heap_at (by simp <;> omega)])
  have HW1 := hid (show _ ∧ _ ∧ _ from ⟨hW, hB0, hB9⟩)
  clear hW hB0 hB9
  have HG := hid (World.grownBy.refl w none)
  replace HRa := hid (Sl.kn HRa.out A1.out)
  replace HG := hid (grown_trans HG.out A1.out)
  go_enter Try.func5, Try.ntmps5
  go_wp2_with fail
  try rw [← HW1.out.1]
  try rw [← HW1.out.2.2]
  try rw [← HW1.out.2.1]
  refine (made_call HT.out HRa.out (World.grownBy.refl _ _)).mono ?_
  rintro e w2 ⟨ao1, k1, cap1, rfl, M1⟩
  have G2 := hid (show W1.grownBy w2 none from M1.out.2)
  replace HB0 := hid (row_of G2.out HB0.out (by simp))
  replace HB9 := hid (row_of G2.out HB9.out (by simp))
  replace HRa := hid (Sl.kn HRa.out G2.out)
  replace HG := hid (grown_trans HG.out G2.out)
  have HRt := hid M1.out.1
  have p0_1 : w2.cell? ⟨B0, 1, none⟩ = some (.int .i64 n) := by rw [cell_of_row _ _ _ _ _ _ HB0.out]; rfl
  have p0_2 : w2.cell? ⟨B0, 2, none⟩ = some (.int .i64 ho) := by rw [cell_of_row _ _ _ _ _ _ HB0.out]; rfl
  have p0_4 : w2.cell? ⟨B0, 4, none⟩ = some (.int .i64 now) := by rw [cell_of_row _ _ _ _ _ _ HB0.out]; rfl
  have p0_5 : w2.cell? ⟨B0, 5, none⟩ = some (.int .i64 d) := by rw [cell_of_row _ _ _ _ _ _ HB0.out]; rfl
  have y0 := block_lt_of_cell p0_1
  obtain ⟨B1, hB1⟩ : ∃ x, x = w2.heap.size := ⟨_, rfl⟩
  obtain ⟨W3, hW⟩ : ∃ x, x = (w2.alloc (.cells #[.int .i64 next, .slice ao1 k1 cap1] 24)) := ⟨_, rfl⟩
  have A3 := hid (show w2.grownBy W3 none from by rw [hW]; (repeat (first | exact World.grownBy.refl _ _ | refine grown_trans ?_ (World.grownBy_alloc _ _ _))))
  have HB1 := hid (show W3.heap[B1]? = some (.cells #[.int .i64 next, .slice ao1 k1 cap1] 24 (0, 0)) from by rw [hW, hB1]; rw [heap_at (by simp <;> omega)])
  have HW3 := hid (And.intro hW (And.intro hB1 True.intro))
  clear hW hB1
  go_wp2_with fail
  try rw [← HW3.out.1]
  try rw [← HW3.out.2.1]
  clear p0_1 p0_2 p0_4 p0_5 y0
  replace HB0 := hid (row_of A3.out HB0.out (by simp))
  replace HB9 := hid (row_of A3.out HB9.out (by simp))
  replace HRa := hid (Sl.kn HRa.out A3.out)
  replace HRt := hid (Sl.kn HRt.out A3.out)
  replace HG := hid (grown_trans HG.out A3.out)
  by_cases he : (acq cds ⟨next, ls⟩ n ho now d).2.2 = 0
  · obtain ⟨⟨nx, X⟩, hx, hnx, hxo, hxl, hlk, r1, r2, r3, r4⟩ := acq_given he
    simp only at hx hnx hxo hxl hlk
    subst hnx
    have hX : X.length ≤ 1000000 := Nat.le_trans hxl (by decide)
    have HX := hid hx
    have HXO := hid hxo
    have HLK := hid hlk
    have hd1 : decide (d < 1) = false := by simp; omega
    clear he hx hxo hxl hlk
    obtain ⟨la, ha1, ha2, hla⟩ := later_of (o := o0) r3 r4 r1 r2
    refine (acqP_call (t := ⟨next, ls⟩) HX.out HRt.out (World.grownBy.refl _ _) hls).mono ?_
    rintro e w4 ⟨ao2, k2, cap2, rfl, M2⟩
    have G4 := hid (show W3.grownBy w4 none from M2.out.2)
    replace HB0 := hid (row_of G4.out HB0.out (by simp))
    replace HB9 := hid (row_of G4.out HB9.out (by simp))
    replace HB1 := hid (row_of G4.out HB1.out (by simp))
    replace HRa := hid (Sl.kn HRa.out G4.out)
    replace HRt := hid (Sl.kn HRt.out G4.out)
    replace HG := hid (grown_trans HG.out G4.out)
    have HRx := hid M2.out.1
    have p0_1 : w4.cell? ⟨B0, 1, none⟩ = some (.int .i64 n) := by rw [cell_of_row _ _ _ _ _ _ HB0.out]; rfl
    have p0_2 : w4.cell? ⟨B0, 2, none⟩ = some (.int .i64 ho) := by rw [cell_of_row _ _ _ _ _ _ HB0.out]; rfl
    have p0_4 : w4.cell? ⟨B0, 4, none⟩ = some (.int .i64 now) := by rw [cell_of_row _ _ _ _ _ _ HB0.out]; rfl
    have p0_5 : w4.cell? ⟨B0, 5, none⟩ = some (.int .i64 d) := by rw [cell_of_row _ _ _ _ _ _ HB0.out]; rfl
    have y0 := block_lt_of_cell p0_1
    have p9_0 : w4.cell? ⟨B9, 0, none⟩ = some (.int .i64 o0) := by rw [cell_of_row _ _ _ _ _ _ HB9.out]; rfl
    have p9_1 : w4.cell? ⟨B9, 1, none⟩ = some (.int .i64 o1) := by rw [cell_of_row _ _ _ _ _ _ HB9.out]; rfl
    have y9 := block_lt_of_cell p9_0
    obtain ⟨B2, hB2⟩ : ∃ x, x = w4.heap.size := ⟨_, rfl⟩
    obtain ⟨W5, hW⟩ : ∃ x, x = (w4.alloc (.cells #[.int .i64 (next + 1), .slice ao2 k2 cap2] 24)) := ⟨_, rfl⟩
    have A5 := hid (show w4.grownBy W5 none from by rw [hW]; (repeat (first | exact World.grownBy.refl _ _ | refine grown_trans ?_ (World.grownBy_alloc _ _ _))))
    have HB2 := hid (show W5.heap[B2]? = some (.cells #[.int .i64 (next + 1), .slice ao2 k2 cap2] 24 (0, 0)) from by rw [hW, hB2]; rw [heap_at (by simp <;> omega)])
    have HW5 := hid (And.intro hW (And.intro hB2 True.intro))
    clear hW hB2
    go_wp2
    try rw [← HW5.out.1]
    try rw [← HW5.out.2.1]
    clear p0_1 p0_2 p0_4 p0_5 y0 p9_0 p9_1 y9
    replace HB0 := hid (row_of A5.out HB0.out (by simp))
    replace HB9 := hid (row_of A5.out HB9.out (by simp))
    replace HB1 := hid (row_of A5.out HB1.out (by simp))
    replace HRa := hid (Sl.kn HRa.out A5.out)
    replace HRt := hid (Sl.kn HRt.out A5.out)
    replace HRx := hid (Sl.kn HRx.out A5.out)
    replace HG := hid (grown_trans HG.out A5.out)
    have p0_1 : W5.cell? ⟨B0, 1, none⟩ = some (.int .i64 n) := by rw [cell_of_row _ _ _ _ _ _ HB0.out]; rfl
    have p0_2 : W5.cell? ⟨B0, 2, none⟩ = some (.int .i64 ho) := by rw [cell_of_row _ _ _ _ _ _ HB0.out]; rfl
    have p0_4 : W5.cell? ⟨B0, 4, none⟩ = some (.int .i64 now) := by rw [cell_of_row _ _ _ _ _ _ HB0.out]; rfl
    have p0_5 : W5.cell? ⟨B0, 5, none⟩ = some (.int .i64 d) := by rw [cell_of_row _ _ _ _ _ _ HB0.out]; rfl
    have y0 := block_lt_of_cell p0_1
    have p9_0 : W5.cell? ⟨B9, 0, none⟩ = some (.int .i64 o0) := by rw [cell_of_row _ _ _ _ _ _ HB9.out]; rfl
    have p9_1 : W5.cell? ⟨B9, 1, none⟩ = some (.int .i64 o1) := by rw [cell_of_row _ _ _ _ _ _ HB9.out]; rfl
    have y9 := block_lt_of_cell p9_0
    have p2_0 : W5.cell? ⟨B2, 0, none⟩ = some (.int .i64 (next + 1)) := by rw [cell_of_row _ _ _ _ _ _ HB2.out]; rfl
    have p2_1 : W5.cell? ⟨B2, 1, none⟩ = some (.slice ao2 k2 cap2) := by rw [cell_of_row _ _ _ _ _ _ HB2.out]; rfl
    have y2 := block_lt_of_cell p2_0
    go_region
    rw [hla]
    have hla2 := hid hla
    clear hla
    go_wp2_with fail
    obtain ⟨f, hf, hf1⟩ := law_before (n := n) (o := o1) (later := la) (d := 1) HXO.out HLK.out (show la < now + d from ha2)
    have HF := hid hf
    clear hf
    refine (acqP_call (t := ⟨next + 1, X⟩) HF.out HRx.out (grown_drew _) hX).mono ?_
    rintro e w6 ⟨ao3, k3, cap3, rfl, M3⟩
    have G6 := hid (show W5.grownBy w6 none from M3.out.2)
    clear p0_1 p0_2 p0_4 p0_5 y0 p9_0 p9_1 y9 p2_0 p2_1 y2
    replace HB0 := hid (row_of G6.out HB0.out (by simp))
    replace HB9 := hid (row_of G6.out HB9.out (by simp))
    replace HB1 := hid (row_of G6.out HB1.out (by simp))
    replace HB2 := hid (row_of G6.out HB2.out (by simp))
    replace HRa := hid (Sl.kn HRa.out G6.out)
    replace HRt := hid (Sl.kn HRt.out G6.out)
    replace HRx := hid (Sl.kn HRx.out G6.out)
    replace HG := hid (grown_trans HG.out G6.out)
    have p0_1 : w6.cell? ⟨B0, 1, none⟩ = some (.int .i64 n) := by rw [cell_of_row _ _ _ _ _ _ HB0.out]; rfl
    have y0 := block_lt_of_cell p0_1
    have p2_0 : w6.cell? ⟨B2, 0, none⟩ = some (.int .i64 (next + 1)) := by rw [cell_of_row _ _ _ _ _ _ HB2.out]; rfl
    have p2_1 : w6.cell? ⟨B2, 1, none⟩ = some (.slice ao2 k2 cap2) := by rw [cell_of_row _ _ _ _ _ _ HB2.out]; rfl
    have y2 := block_lt_of_cell p2_0
    obtain ⟨B3, hB3⟩ : ∃ x, x = w6.heap.size := ⟨_, rfl⟩
    obtain ⟨W7, hW⟩ : ∃ x, x = (w6.alloc (.cells #[.int .i64 Tb.zero.next, .slice ao3 k3 cap3] 24)) := ⟨_, rfl⟩
    have A7 := hid (show w6.grownBy W7 none from by rw [hW]; (repeat (first | exact World.grownBy.refl _ _ | refine grown_trans ?_ (World.grownBy_alloc _ _ _))))
    have HB3 := hid (show W7.heap[B3]? = some (.cells #[.int .i64 Tb.zero.next, .slice ao3 k3 cap3] 24 (0, 0)) from by rw [hW, hB3]; rw [heap_at (by simp <;> omega)])
    have HW7 := hid (And.intro hW (And.intro hB3 True.intro))
    clear hW hB3
    have hfl := hid (show fnd ⟨next + 1, X⟩ n la = (⟨n, ho, next, now + d⟩, true) from fnd_ins HXO.out HLK.out ha2)
    go_wp2_with fail
    try rw [← HW7.out.1]
    try rw [← HW7.out.2.1]
    clear p0_1 y0 p2_0 p2_1 y2
    replace HB0 := hid (row_of A7.out HB0.out (by simp))
    replace HB9 := hid (row_of A7.out HB9.out (by simp))
    replace HB1 := hid (row_of A7.out HB1.out (by simp))
    replace HB2 := hid (row_of A7.out HB2.out (by simp))
    replace HRa := hid (Sl.kn HRa.out A7.out)
    replace HRt := hid (Sl.kn HRt.out A7.out)
    replace HRx := hid (Sl.kn HRx.out A7.out)
    replace HG := hid (grown_trans HG.out A7.out)
    refine (fndP_call (t := ⟨next + 1, X⟩) hfl.out HRx.out (World.grownBy.refl _ _) hX).mono ?_
    rintro e w8 ⟨rfl, M4⟩
    have G8 := hid (show W7.grownBy w8 none from M4)
    replace HB0 := hid (row_of G8.out HB0.out (by simp))
    replace HB9 := hid (row_of G8.out HB9.out (by simp))
    replace HB1 := hid (row_of G8.out HB1.out (by simp))
    replace HB2 := hid (row_of G8.out HB2.out (by simp))
    replace HB3 := hid (row_of G8.out HB3.out (by simp))
    replace HRa := hid (Sl.kn HRa.out G8.out)
    replace HRt := hid (Sl.kn HRt.out G8.out)
    replace HRx := hid (Sl.kn HRx.out G8.out)
    replace HG := hid (grown_trans HG.out G8.out)
    have p0_1 : w8.cell? ⟨B0, 1, none⟩ = some (.int .i64 n) := by rw [cell_of_row _ _ _ _ _ _ HB0.out]; rfl
    have p0_4 : w8.cell? ⟨B0, 4, none⟩ = some (.int .i64 now) := by rw [cell_of_row _ _ _ _ _ _ HB0.out]; rfl
    have p0_5 : w8.cell? ⟨B0, 5, none⟩ = some (.int .i64 d) := by rw [cell_of_row _ _ _ _ _ _ HB0.out]; rfl
    have y0 := block_lt_of_cell p0_1
    have p2_0 : w8.cell? ⟨B2, 0, none⟩ = some (.int .i64 (next + 1)) := by rw [cell_of_row _ _ _ _ _ _ HB2.out]; rfl
    have p2_1 : w8.cell? ⟨B2, 1, none⟩ = some (.slice ao2 k2 cap2) := by rw [cell_of_row _ _ _ _ _ _ HB2.out]; rfl
    have y2 := block_lt_of_cell p2_0
    obtain ⟨B4, hB4⟩ : ∃ x, x = w8.heap.size := ⟨_, rfl⟩
    obtain ⟨W9, hW⟩ : ∃ x, x = (w8.alloc (.cells #[.int .i64 n, .int .i64 ho, .int .i64 next, .int .i64 (now + d)] 38)) := ⟨_, rfl⟩
    have A9 := hid (show w8.grownBy W9 none from by rw [hW]; (repeat (first | exact World.grownBy.refl _ _ | refine grown_trans ?_ (World.grownBy_alloc _ _ _))))
    have HB4 := hid (show W9.heap[B4]? = some (.cells #[.int .i64 n, .int .i64 ho, .int .i64 next, .int .i64 (now + d)] 38 (0, 0)) from by rw [hW, hB4]; rw [heap_at (by simp <;> omega)])
    have HW9 := hid (And.intro hW (And.intro hB4 True.intro))
    clear hW hB4
    have hfe := hid (show fnd ⟨next + 1, X⟩ n (now + d) = (⟨0, 0, 0, 0⟩, false) from fnd_late HXO.out HLK.out (Int.lt_irrefl _))
    go_wp2_with fail
    try rw [← HW9.out.1]
    try rw [← HW9.out.2.1]
    clear p0_1 p0_4 p0_5 y0 p2_0 p2_1 y2
    replace HB0 := hid (row_of A9.out HB0.out (by simp))
    replace HB9 := hid (row_of A9.out HB9.out (by simp))
    replace HB1 := hid (row_of A9.out HB1.out (by simp))
    replace HB2 := hid (row_of A9.out HB2.out (by simp))
    replace HB3 := hid (row_of A9.out HB3.out (by simp))
    replace HRa := hid (Sl.kn HRa.out A9.out)
    replace HRt := hid (Sl.kn HRt.out A9.out)
    replace HRx := hid (Sl.kn HRx.out A9.out)
    replace HG := hid (grown_trans HG.out A9.out)
    refine (fndP_call (t := ⟨next + 1, X⟩) hfe.out HRx.out (World.grownBy.refl _ _) hX).mono ?_
    rintro e w10 ⟨rfl, M5⟩
    have G10 := hid (show W9.grownBy w10 none from M5)
    replace HB0 := hid (row_of G10.out HB0.out (by simp))
    replace HB9 := hid (row_of G10.out HB9.out (by simp))
    replace HB1 := hid (row_of G10.out HB1.out (by simp))
    replace HB2 := hid (row_of G10.out HB2.out (by simp))
    replace HB3 := hid (row_of G10.out HB3.out (by simp))
    replace HB4 := hid (row_of G10.out HB4.out (by simp))
    replace HRa := hid (Sl.kn HRa.out G10.out)
    replace HRt := hid (Sl.kn HRt.out G10.out)
    replace HRx := hid (Sl.kn HRx.out G10.out)
    replace HG := hid (grown_trans HG.out G10.out)
    have p0_1 : w10.cell? ⟨B0, 1, none⟩ = some (.int .i64 n) := by rw [cell_of_row _ _ _ _ _ _ HB0.out]; rfl
    have p0_4 : w10.cell? ⟨B0, 4, none⟩ = some (.int .i64 now) := by rw [cell_of_row _ _ _ _ _ _ HB0.out]; rfl
    have p0_5 : w10.cell? ⟨B0, 5, none⟩ = some (.int .i64 d) := by rw [cell_of_row _ _ _ _ _ _ HB0.out]; rfl
    have y0 := block_lt_of_cell p0_1
    have p2_0 : w10.cell? ⟨B2, 0, none⟩ = some (.int .i64 (next + 1)) := by rw [cell_of_row _ _ _ _ _ _ HB2.out]; rfl
    have p2_1 : w10.cell? ⟨B2, 1, none⟩ = some (.slice ao2 k2 cap2) := by rw [cell_of_row _ _ _ _ _ _ HB2.out]; rfl
    have y2 := block_lt_of_cell p2_0
    have p9_1 : w10.cell? ⟨B9, 1, none⟩ = some (.int .i64 o1) := by rw [cell_of_row _ _ _ _ _ _ HB9.out]; rfl
    have y9 := block_lt_of_cell p9_1
    obtain ⟨B5, hB5⟩ : ∃ x, x = w10.heap.size := ⟨_, rfl⟩
    obtain ⟨W11, hW⟩ : ∃ x, x = (w10.alloc (.cells #[.int .i64 0, .int .i64 0, .int .i64 0, .int .i64 0] 38)) := ⟨_, rfl⟩
    have A11 := hid (show w10.grownBy W11 none from by rw [hW]; (repeat (first | exact World.grownBy.refl _ _ | refine grown_trans ?_ (World.grownBy_alloc _ _ _))))
    have HB5 := hid (show W11.heap[B5]? = some (.cells #[.int .i64 0, .int .i64 0, .int .i64 0, .int .i64 0] 38 (0, 0)) from by rw [hW, hB5]; rw [heap_at (by simp <;> omega)])
    have HW11 := hid (And.intro hW (And.intro hB5 True.intro))
    clear hW hB5
    rcases law_after (n := n) (o := o1) (t := now + d) (d := 5) HXO.out HLK.out (Int.lt_irrefl _) with ⟨g, hg, hg1⟩ | ⟨htm, hg⟩
    · have HGG := hid hg
      clear hg
      go_wp2_with fail
      try rw [← HW11.out.1]
      try rw [← HW11.out.2.1]
      clear p0_1 p0_4 p0_5 y0 p2_0 p2_1 y2 p9_1 y9
      replace HB0 := hid (row_of A11.out HB0.out (by simp))
      replace HB9 := hid (row_of A11.out HB9.out (by simp))
      replace HB1 := hid (row_of A11.out HB1.out (by simp))
      replace HB2 := hid (row_of A11.out HB2.out (by simp))
      replace HB3 := hid (row_of A11.out HB3.out (by simp))
      replace HB4 := hid (row_of A11.out HB4.out (by simp))
      replace HRa := hid (Sl.kn HRa.out A11.out)
      replace HRt := hid (Sl.kn HRt.out A11.out)
      replace HRx := hid (Sl.kn HRx.out A11.out)
      replace HG := hid (grown_trans HG.out A11.out)
      refine (acqP_call (t := ⟨next + 1, X⟩) HGG.out HRx.out (World.grownBy.refl _ _) hX).mono ?_
      rintro e w12 ⟨ao6, k6, cap6, rfl, M6⟩
      have G12 := hid (show W11.grownBy w12 none from M6.out.2)
      replace HB0 := hid (row_of G12.out HB0.out (by simp))
      replace HB9 := hid (row_of G12.out HB9.out (by simp))
      replace HB1 := hid (row_of G12.out HB1.out (by simp))
      replace HB2 := hid (row_of G12.out HB2.out (by simp))
      replace HB3 := hid (row_of G12.out HB3.out (by simp))
      replace HB4 := hid (row_of G12.out HB4.out (by simp))
      replace HB5 := hid (row_of G12.out HB5.out (by simp))
      replace HRa := hid (Sl.kn HRa.out G12.out)
      replace HRt := hid (Sl.kn HRt.out G12.out)
      replace HRx := hid (Sl.kn HRx.out G12.out)
      replace HG := hid (grown_trans HG.out G12.out)
      have p4_1 : w12.cell? ⟨B4, 1, none⟩ = some (.int .i64 ho) := by rw [cell_of_row _ _ _ _ _ _ HB4.out]; rfl
      have p4_2 : w12.cell? ⟨B4, 2, none⟩ = some (.int .i64 next) := by rw [cell_of_row _ _ _ _ _ _ HB4.out]; rfl
      have y4 := block_lt_of_cell p4_1
      have p0_2 : w12.cell? ⟨B0, 2, none⟩ = some (.int .i64 ho) := by rw [cell_of_row _ _ _ _ _ _ HB0.out]; rfl
      have y0 := block_lt_of_cell p0_2
      obtain ⟨B6, hB6⟩ : ∃ x, x = w12.heap.size := ⟨_, rfl⟩
      obtain ⟨W13, hW⟩ : ∃ x, x = (w12.alloc (.cells #[.int .i64 Tb.zero.next, .slice ao6 k6 cap6] 24)) := ⟨_, rfl⟩
      have A13 := hid (show w12.grownBy W13 none from by rw [hW]; (repeat (first | exact World.grownBy.refl _ _ | refine grown_trans ?_ (World.grownBy_alloc _ _ _))))
      have HB6 := hid (show W13.heap[B6]? = some (.cells #[.int .i64 Tb.zero.next, .slice ao6 k6 cap6] 24 (0, 0)) from by rw [hW, hB6]; rw [heap_at (by simp <;> omega)])
      have HW13 := hid (And.intro hW (And.intro hB6 True.intro))
      clear hW hB6
      rcases hf1 with rfl | rfl <;> rcases hg1 with rfl | rfl
      · go_wp2_with fail
        try rw [← HW13.out.1]
        try rw [← HW13.out.2.1]
        clear p4_1 p4_2 y4 p0_2 y0
        replace HB0 := hid (row_of A13.out HB0.out (by simp))
        replace HB9 := hid (row_of A13.out HB9.out (by simp))
        replace HB1 := hid (row_of A13.out HB1.out (by simp))
        replace HB2 := hid (row_of A13.out HB2.out (by simp))
        replace HB3 := hid (row_of A13.out HB3.out (by simp))
        replace HB4 := hid (row_of A13.out HB4.out (by simp))
        replace HB5 := hid (row_of A13.out HB5.out (by simp))
        replace HRa := hid (Sl.kn HRa.out A13.out)
        replace HRt := hid (Sl.kn HRt.out A13.out)
        replace HRx := hid (Sl.kn HRx.out A13.out)
        replace HG := hid (grown_trans HG.out A13.out)
        refine (awk_call (World.grownBy.refl _ _)).mono ?_
        rintro e w14 ⟨rfl, M7⟩
        have G14 := hid (show W13.grownBy w14 none from M7.out)
        replace HB0 := hid (row_of G14.out HB0.out (by simp))
        replace HB9 := hid (row_of G14.out HB9.out (by simp))
        replace HB1 := hid (row_of G14.out HB1.out (by simp))
        replace HB2 := hid (row_of G14.out HB2.out (by simp))
        replace HB3 := hid (row_of G14.out HB3.out (by simp))
        replace HB4 := hid (row_of G14.out HB4.out (by simp))
        replace HB5 := hid (row_of G14.out HB5.out (by simp))
        replace HB6 := hid (row_of G14.out HB6.out (by simp))
        replace HRa := hid (Sl.kn HRa.out G14.out)
        replace HRt := hid (Sl.kn HRt.out G14.out)
        replace HRx := hid (Sl.kn HRx.out G14.out)
        replace HG := hid (grown_trans HG.out G14.out)
        go_wp2
        go_ret
        exact ⟨rfl, HG.out⟩
      · go_wp2_with fail
        try rw [← HW13.out.1]
        try rw [← HW13.out.2.1]
        clear p4_1 p4_2 y4 p0_2 y0
        replace HB0 := hid (row_of A13.out HB0.out (by simp))
        replace HB9 := hid (row_of A13.out HB9.out (by simp))
        replace HB1 := hid (row_of A13.out HB1.out (by simp))
        replace HB2 := hid (row_of A13.out HB2.out (by simp))
        replace HB3 := hid (row_of A13.out HB3.out (by simp))
        replace HB4 := hid (row_of A13.out HB4.out (by simp))
        replace HB5 := hid (row_of A13.out HB5.out (by simp))
        replace HRa := hid (Sl.kn HRa.out A13.out)
        replace HRt := hid (Sl.kn HRt.out A13.out)
        replace HRx := hid (Sl.kn HRx.out A13.out)
        replace HG := hid (grown_trans HG.out A13.out)
        refine (awk_call (World.grownBy.refl _ _)).mono ?_
        rintro e w14 ⟨rfl, M7⟩
        have G14 := hid (show W13.grownBy w14 none from M7.out)
        replace HB0 := hid (row_of G14.out HB0.out (by simp))
        replace HB9 := hid (row_of G14.out HB9.out (by simp))
        replace HB1 := hid (row_of G14.out HB1.out (by simp))
        replace HB2 := hid (row_of G14.out HB2.out (by simp))
        replace HB3 := hid (row_of G14.out HB3.out (by simp))
        replace HB4 := hid (row_of G14.out HB4.out (by simp))
        replace HB5 := hid (row_of G14.out HB5.out (by simp))
        replace HB6 := hid (row_of G14.out HB6.out (by simp))
        replace HRa := hid (Sl.kn HRa.out G14.out)
        replace HRt := hid (Sl.kn HRt.out G14.out)
        replace HRx := hid (Sl.kn HRx.out G14.out)
        replace HG := hid (grown_trans HG.out G14.out)
        go_wp2
        go_ret
        exact ⟨rfl, HG.out⟩
      · go_wp2_with fail
        try rw [← HW13.out.1]
        try rw [← HW13.out.2.1]
        clear p4_1 p4_2 y4 p0_2 y0
        replace HB0 := hid (row_of A13.out HB0.out (by simp))
        replace HB9 := hid (row_of A13.out HB9.out (by simp))
        replace HB1 := hid (row_of A13.out HB1.out (by simp))
        replace HB2 := hid (row_of A13.out HB2.out (by simp))
        replace HB3 := hid (row_of A13.out HB3.out (by simp))
        replace HB4 := hid (row_of A13.out HB4.out (by simp))
        replace HB5 := hid (row_of A13.out HB5.out (by simp))
        replace HRa := hid (Sl.kn HRa.out A13.out)
        replace HRt := hid (Sl.kn HRt.out A13.out)
        replace HRx := hid (Sl.kn HRx.out A13.out)
        replace HG := hid (grown_trans HG.out A13.out)
        refine (awk_call (World.grownBy.refl _ _)).mono ?_
        rintro e w14 ⟨rfl, M7⟩
        have G14 := hid (show W13.grownBy w14 none from M7.out)
        replace HB0 := hid (row_of G14.out HB0.out (by simp))
        replace HB9 := hid (row_of G14.out HB9.out (by simp))
        replace HB1 := hid (row_of G14.out HB1.out (by simp))
        replace HB2 := hid (row_of G14.out HB2.out (by simp))
        replace HB3 := hid (row_of G14.out HB3.out (by simp))
        replace HB4 := hid (row_of G14.out HB4.out (by simp))
        replace HB5 := hid (row_of G14.out HB5.out (by simp))
        replace HB6 := hid (row_of G14.out HB6.out (by simp))
        replace HRa := hid (Sl.kn HRa.out G14.out)
        replace HRt := hid (Sl.kn HRt.out G14.out)
        replace HRx := hid (Sl.kn HRx.out G14.out)
        replace HG := hid (grown_trans HG.out G14.out)
        go_wp2
        go_ret
        exact ⟨rfl, HG.out⟩
      · go_wp2_with fail
        try rw [← HW13.out.1]
        try rw [← HW13.out.2.1]
        clear p4_1 p4_2 y4 p0_2 y0
        replace HB0 := hid (row_of A13.out HB0.out (by simp))
        replace HB9 := hid (row_of A13.out HB9.out (by simp))
        replace HB1 := hid (row_of A13.out HB1.out (by simp))
        replace HB2 := hid (row_of A13.out HB2.out (by simp))
        replace HB3 := hid (row_of A13.out HB3.out (by simp))
        replace HB4 := hid (row_of A13.out HB4.out (by simp))
        replace HB5 := hid (row_of A13.out HB5.out (by simp))
        replace HRa := hid (Sl.kn HRa.out A13.out)
        replace HRt := hid (Sl.kn HRt.out A13.out)
        replace HRx := hid (Sl.kn HRx.out A13.out)
        replace HG := hid (grown_trans HG.out A13.out)
        refine (awk_call (World.grownBy.refl _ _)).mono ?_
        rintro e w14 ⟨rfl, M7⟩
        have G14 := hid (show W13.grownBy w14 none from M7.out)
        replace HB0 := hid (row_of G14.out HB0.out (by simp))
        replace HB9 := hid (row_of G14.out HB9.out (by simp))
        replace HB1 := hid (row_of G14.out HB1.out (by simp))
        replace HB2 := hid (row_of G14.out HB2.out (by simp))
        replace HB3 := hid (row_of G14.out HB3.out (by simp))
        replace HB4 := hid (row_of G14.out HB4.out (by simp))
        replace HB5 := hid (row_of G14.out HB5.out (by simp))
        replace HB6 := hid (row_of G14.out HB6.out (by simp))
        replace HRa := hid (Sl.kn HRa.out G14.out)
        replace HRt := hid (Sl.kn HRt.out G14.out)
        replace HRx := hid (Sl.kn HRx.out G14.out)
        replace HG := hid (grown_trans HG.out G14.out)
        go_wp2
        go_ret
        exact ⟨rfl, HG.out⟩
    · obtain ⟨⟨ny, Y⟩, hy⟩ : ∃ q : Tb, (⟨next + 1 + 1, ins ⟨n, o1, next + 1, now + d + 5⟩ X⟩ : Tb) = q := ⟨_, rfl⟩
      have hyo := acq_okk (t := ⟨next + 1, X⟩) (n := n) (h := o1) (now := now + d) (d := 5) (by rw [hg])
      have hyl := acq_len ⟨next + 1, X⟩ n o1 (now + d) 5
      simp only at hg
      rw [hy] at hg
      rw [hg] at hyo hyl
      simp only at hyo hyl
      have hlk : look n Y = some ⟨n, o1, next + 1, now + d + 5⟩ := by have e := look_ins ⟨n, o1, next + 1, now + d + 5⟩ X n; rw [if_pos rfl] at e; rw [← e]; exact (congrArg (fun q : Tb => look n q.ls) hy).symm
      have hr := hid (ren_lost (h := ho) (k := next) (d := 5) hyo hlk htm (show next + 1 ≠ next by omega))
      have hs := hid (rel_lost (h := ho) (k := next) hyo hlk (show next + 1 ≠ next by omega))
      have hY : Y.length ≤ 1000000 := Nat.le_trans hyl (by decide)
      have HGG := hid hg
      have hlt : decide (next < next + 1) = true := by simp; omega
      clear hg hy hyo hyl hlk htm
      go_wp2_with fail
      try rw [← HW11.out.1]
      try rw [← HW11.out.2.1]
      clear p0_1 p0_4 p0_5 y0 p2_0 p2_1 y2 p9_1 y9
      replace HB0 := hid (row_of A11.out HB0.out (by simp))
      replace HB9 := hid (row_of A11.out HB9.out (by simp))
      replace HB1 := hid (row_of A11.out HB1.out (by simp))
      replace HB2 := hid (row_of A11.out HB2.out (by simp))
      replace HB3 := hid (row_of A11.out HB3.out (by simp))
      replace HB4 := hid (row_of A11.out HB4.out (by simp))
      replace HRa := hid (Sl.kn HRa.out A11.out)
      replace HRt := hid (Sl.kn HRt.out A11.out)
      replace HRx := hid (Sl.kn HRx.out A11.out)
      replace HG := hid (grown_trans HG.out A11.out)
      refine (acqP_call (t := ⟨next + 1, X⟩) HGG.out HRx.out (World.grownBy.refl _ _) hX).mono ?_
      rintro e w12 ⟨ao6, k6, cap6, rfl, M6⟩
      have G12 := hid (show W11.grownBy w12 none from M6.out.2)
      replace HB0 := hid (row_of G12.out HB0.out (by simp))
      replace HB9 := hid (row_of G12.out HB9.out (by simp))
      replace HB1 := hid (row_of G12.out HB1.out (by simp))
      replace HB2 := hid (row_of G12.out HB2.out (by simp))
      replace HB3 := hid (row_of G12.out HB3.out (by simp))
      replace HB4 := hid (row_of G12.out HB4.out (by simp))
      replace HB5 := hid (row_of G12.out HB5.out (by simp))
      replace HRa := hid (Sl.kn HRa.out G12.out)
      replace HRt := hid (Sl.kn HRt.out G12.out)
      replace HRx := hid (Sl.kn HRx.out G12.out)
      replace HG := hid (grown_trans HG.out G12.out)
      have HRy := hid M6.out.1
      have p4_1 : w12.cell? ⟨B4, 1, none⟩ = some (.int .i64 ho) := by rw [cell_of_row _ _ _ _ _ _ HB4.out]; rfl
      have p4_2 : w12.cell? ⟨B4, 2, none⟩ = some (.int .i64 next) := by rw [cell_of_row _ _ _ _ _ _ HB4.out]; rfl
      have y4 := block_lt_of_cell p4_1
      have p0_1 : w12.cell? ⟨B0, 1, none⟩ = some (.int .i64 n) := by rw [cell_of_row _ _ _ _ _ _ HB0.out]; rfl
      have p0_2 : w12.cell? ⟨B0, 2, none⟩ = some (.int .i64 ho) := by rw [cell_of_row _ _ _ _ _ _ HB0.out]; rfl
      have p0_4 : w12.cell? ⟨B0, 4, none⟩ = some (.int .i64 now) := by rw [cell_of_row _ _ _ _ _ _ HB0.out]; rfl
      have p0_5 : w12.cell? ⟨B0, 5, none⟩ = some (.int .i64 d) := by rw [cell_of_row _ _ _ _ _ _ HB0.out]; rfl
      have y0 := block_lt_of_cell p0_1
      obtain ⟨B6, hB6⟩ : ∃ x, x = w12.heap.size := ⟨_, rfl⟩
      obtain ⟨W13, hW⟩ : ∃ x, x = (w12.alloc (.cells #[.int .i64 ny, .slice ao6 k6 cap6] 24)) := ⟨_, rfl⟩
      have A13 := hid (show w12.grownBy W13 none from by rw [hW]; (repeat (first | exact World.grownBy.refl _ _ | refine grown_trans ?_ (World.grownBy_alloc _ _ _))))
      have HB6 := hid (show W13.heap[B6]? = some (.cells #[.int .i64 ny, .slice ao6 k6 cap6] 24 (0, 0)) from by rw [hW, hB6]; rw [heap_at (by simp <;> omega)])
      have HW13 := hid (And.intro hW (And.intro hB6 True.intro))
      clear hW hB6
      rcases hf1 with rfl | rfl
      · go_wp2_with fail
        try rw [← HW13.out.1]
        try rw [← HW13.out.2.1]
        clear p4_1 p4_2 y4 p0_1 p0_2 p0_4 p0_5 y0
        replace HB0 := hid (row_of A13.out HB0.out (by simp))
        replace HB9 := hid (row_of A13.out HB9.out (by simp))
        replace HB1 := hid (row_of A13.out HB1.out (by simp))
        replace HB2 := hid (row_of A13.out HB2.out (by simp))
        replace HB3 := hid (row_of A13.out HB3.out (by simp))
        replace HB4 := hid (row_of A13.out HB4.out (by simp))
        replace HB5 := hid (row_of A13.out HB5.out (by simp))
        replace HRa := hid (Sl.kn HRa.out A13.out)
        replace HRt := hid (Sl.kn HRt.out A13.out)
        replace HRx := hid (Sl.kn HRx.out A13.out)
        replace HRy := hid (Sl.kn HRy.out A13.out)
        replace HG := hid (grown_trans HG.out A13.out)
        refine (renP_call (t := ⟨ny, Y⟩) hr.out HRy.out (World.grownBy.refl _ _) hY).mono ?_
        rintro e w14 ⟨ao7, k7, cap7, rfl, M7⟩
        have G14 := hid (show W13.grownBy w14 none from M7.out.2)
        replace HB0 := hid (row_of G14.out HB0.out (by simp))
        replace HB9 := hid (row_of G14.out HB9.out (by simp))
        replace HB1 := hid (row_of G14.out HB1.out (by simp))
        replace HB2 := hid (row_of G14.out HB2.out (by simp))
        replace HB3 := hid (row_of G14.out HB3.out (by simp))
        replace HB4 := hid (row_of G14.out HB4.out (by simp))
        replace HB5 := hid (row_of G14.out HB5.out (by simp))
        replace HB6 := hid (row_of G14.out HB6.out (by simp))
        replace HRa := hid (Sl.kn HRa.out G14.out)
        replace HRt := hid (Sl.kn HRt.out G14.out)
        replace HRx := hid (Sl.kn HRx.out G14.out)
        replace HRy := hid (Sl.kn HRy.out G14.out)
        replace HG := hid (grown_trans HG.out G14.out)
        have p6_0 : w14.cell? ⟨B6, 0, none⟩ = some (.int .i64 ny) := by rw [cell_of_row _ _ _ _ _ _ HB6.out]; rfl
        have p6_1 : w14.cell? ⟨B6, 1, none⟩ = some (.slice ao6 k6 cap6) := by rw [cell_of_row _ _ _ _ _ _ HB6.out]; rfl
        have y6 := block_lt_of_cell p6_0
        have p0_1 : w14.cell? ⟨B0, 1, none⟩ = some (.int .i64 n) := by rw [cell_of_row _ _ _ _ _ _ HB0.out]; rfl
        have p0_2 : w14.cell? ⟨B0, 2, none⟩ = some (.int .i64 ho) := by rw [cell_of_row _ _ _ _ _ _ HB0.out]; rfl
        have y0 := block_lt_of_cell p0_1
        obtain ⟨B7, hB7⟩ : ∃ x, x = w14.heap.size := ⟨_, rfl⟩
        obtain ⟨W15, hW⟩ : ∃ x, x = (w14.alloc (.cells #[.int .i64 Tb.zero.next, .slice ao7 k7 cap7] 24)) := ⟨_, rfl⟩
        have A15 := hid (show w14.grownBy W15 none from by rw [hW]; (repeat (first | exact World.grownBy.refl _ _ | refine grown_trans ?_ (World.grownBy_alloc _ _ _))))
        have HB7 := hid (show W15.heap[B7]? = some (.cells #[.int .i64 Tb.zero.next, .slice ao7 k7 cap7] 24 (0, 0)) from by rw [hW, hB7]; rw [heap_at (by simp <;> omega)])
        have HW15 := hid (And.intro hW (And.intro hB7 True.intro))
        clear hW hB7
        go_wp2_with fail
        try rw [← HW15.out.1]
        try rw [← HW15.out.2.1]
        clear p6_0 p6_1 y6 p0_1 p0_2 y0
        replace HB0 := hid (row_of A15.out HB0.out (by simp))
        replace HB9 := hid (row_of A15.out HB9.out (by simp))
        replace HB1 := hid (row_of A15.out HB1.out (by simp))
        replace HB2 := hid (row_of A15.out HB2.out (by simp))
        replace HB3 := hid (row_of A15.out HB3.out (by simp))
        replace HB4 := hid (row_of A15.out HB4.out (by simp))
        replace HB5 := hid (row_of A15.out HB5.out (by simp))
        replace HB6 := hid (row_of A15.out HB6.out (by simp))
        replace HRa := hid (Sl.kn HRa.out A15.out)
        replace HRt := hid (Sl.kn HRt.out A15.out)
        replace HRx := hid (Sl.kn HRx.out A15.out)
        replace HRy := hid (Sl.kn HRy.out A15.out)
        replace HG := hid (grown_trans HG.out A15.out)
        refine (relP_call (t := ⟨ny, Y⟩) hs.out HRy.out (World.grownBy.refl _ _) hY).mono ?_
        rintro e w16 ⟨ao8, k8, cap8, rfl, M8⟩
        have G16 := hid (show W15.grownBy w16 none from M8.out.2)
        replace HB0 := hid (row_of G16.out HB0.out (by simp))
        replace HB9 := hid (row_of G16.out HB9.out (by simp))
        replace HB1 := hid (row_of G16.out HB1.out (by simp))
        replace HB2 := hid (row_of G16.out HB2.out (by simp))
        replace HB3 := hid (row_of G16.out HB3.out (by simp))
        replace HB4 := hid (row_of G16.out HB4.out (by simp))
        replace HB5 := hid (row_of G16.out HB5.out (by simp))
        replace HB6 := hid (row_of G16.out HB6.out (by simp))
        replace HB7 := hid (row_of G16.out HB7.out (by simp))
        replace HRa := hid (Sl.kn HRa.out G16.out)
        replace HRt := hid (Sl.kn HRt.out G16.out)
        replace HRx := hid (Sl.kn HRx.out G16.out)
        replace HRy := hid (Sl.kn HRy.out G16.out)
        replace HG := hid (grown_trans HG.out G16.out)
        obtain ⟨B8, hB8⟩ : ∃ x, x = w16.heap.size := ⟨_, rfl⟩
        obtain ⟨W17, hW⟩ : ∃ x, x = (w16.alloc (.cells #[.int .i64 Tb.zero.next, .slice ao8 k8 cap8] 24)) := ⟨_, rfl⟩
        have A17 := hid (show w16.grownBy W17 none from by rw [hW]; (repeat (first | exact World.grownBy.refl _ _ | refine grown_trans ?_ (World.grownBy_alloc _ _ _))))
        have HB8 := hid (show W17.heap[B8]? = some (.cells #[.int .i64 Tb.zero.next, .slice ao8 k8 cap8] 24 (0, 0)) from by rw [hW, hB8]; rw [heap_at (by simp <;> omega)])
        have HW17 := hid (And.intro hW (And.intro hB8 True.intro))
        clear hW hB8
        go_wp2_with fail
        try rw [← HW17.out.1]
        try rw [← HW17.out.2.1]
        replace HB0 := hid (row_of A17.out HB0.out (by simp))
        replace HB9 := hid (row_of A17.out HB9.out (by simp))
        replace HB1 := hid (row_of A17.out HB1.out (by simp))
        replace HB2 := hid (row_of A17.out HB2.out (by simp))
        replace HB3 := hid (row_of A17.out HB3.out (by simp))
        replace HB4 := hid (row_of A17.out HB4.out (by simp))
        replace HB5 := hid (row_of A17.out HB5.out (by simp))
        replace HB6 := hid (row_of A17.out HB6.out (by simp))
        replace HB7 := hid (row_of A17.out HB7.out (by simp))
        replace HRa := hid (Sl.kn HRa.out A17.out)
        replace HRt := hid (Sl.kn HRt.out A17.out)
        replace HRx := hid (Sl.kn HRx.out A17.out)
        replace HRy := hid (Sl.kn HRy.out A17.out)
        replace HG := hid (grown_trans HG.out A17.out)
        refine (awk_call (World.grownBy.refl _ _)).mono ?_
        rintro e w18 ⟨rfl, M10⟩
        have G18 := hid (show W17.grownBy w18 none from M10.out)
        replace HB0 := hid (row_of G18.out HB0.out (by simp))
        replace HB9 := hid (row_of G18.out HB9.out (by simp))
        replace HB1 := hid (row_of G18.out HB1.out (by simp))
        replace HB2 := hid (row_of G18.out HB2.out (by simp))
        replace HB3 := hid (row_of G18.out HB3.out (by simp))
        replace HB4 := hid (row_of G18.out HB4.out (by simp))
        replace HB5 := hid (row_of G18.out HB5.out (by simp))
        replace HB6 := hid (row_of G18.out HB6.out (by simp))
        replace HB7 := hid (row_of G18.out HB7.out (by simp))
        replace HB8 := hid (row_of G18.out HB8.out (by simp))
        replace HRa := hid (Sl.kn HRa.out G18.out)
        replace HRt := hid (Sl.kn HRt.out G18.out)
        replace HRx := hid (Sl.kn HRx.out G18.out)
        replace HRy := hid (Sl.kn HRy.out G18.out)
        replace HG := hid (grown_trans HG.out G18.out)
        go_wp2
        go_ret
        exact ⟨rfl, HG.out⟩
      · go_wp2_with fail
        try rw [← HW13.out.1]
        try rw [← HW13.out.2.1]
        clear p4_1 p4_2 y4 p0_1 p0_2 p0_4 p0_5 y0
        replace HB0 := hid (row_of A13.out HB0.out (by simp))
        replace HB9 := hid (row_of A13.out HB9.out (by simp))
        replace HB1 := hid (row_of A13.out HB1.out (by simp))
        replace HB2 := hid (row_of A13.out HB2.out (by simp))
        replace HB3 := hid (row_of A13.out HB3.out (by simp))
        replace HB4 := hid (row_of A13.out HB4.out (by simp))
        replace HB5 := hid (row_of A13.out HB5.out (by simp))
        replace HRa := hid (Sl.kn HRa.out A13.out)
        replace HRt := hid (Sl.kn HRt.out A13.out)
        replace HRx := hid (Sl.kn HRx.out A13.out)
        replace HRy := hid (Sl.kn HRy.out A13.out)
        replace HG := hid (grown_trans HG.out A13.out)
        refine (renP_call (t := ⟨ny, Y⟩) hr.out HRy.out (World.grownBy.refl _ _) hY).mono ?_
        rintro e w14 ⟨ao7, k7, cap7, rfl, M7⟩
        have G14 := hid (show W13.grownBy w14 none from M7.out.2)
        replace HB0 := hid (row_of G14.out HB0.out (by simp))
        replace HB9 := hid (row_of G14.out HB9.out (by simp))
        replace HB1 := hid (row_of G14.out HB1.out (by simp))
        replace HB2 := hid (row_of G14.out HB2.out (by simp))
        replace HB3 := hid (row_of G14.out HB3.out (by simp))
        replace HB4 := hid (row_of G14.out HB4.out (by simp))
        replace HB5 := hid (row_of G14.out HB5.out (by simp))
        replace HB6 := hid (row_of G14.out HB6.out (by simp))
        replace HRa := hid (Sl.kn HRa.out G14.out)
        replace HRt := hid (Sl.kn HRt.out G14.out)
        replace HRx := hid (Sl.kn HRx.out G14.out)
        replace HRy := hid (Sl.kn HRy.out G14.out)
        replace HG := hid (grown_trans HG.out G14.out)
        have p6_0 : w14.cell? ⟨B6, 0, none⟩ = some (.int .i64 ny) := by rw [cell_of_row _ _ _ _ _ _ HB6.out]; rfl
        have p6_1 : w14.cell? ⟨B6, 1, none⟩ = some (.slice ao6 k6 cap6) := by rw [cell_of_row _ _ _ _ _ _ HB6.out]; rfl
        have y6 := block_lt_of_cell p6_0
        have p0_1 : w14.cell? ⟨B0, 1, none⟩ = some (.int .i64 n) := by rw [cell_of_row _ _ _ _ _ _ HB0.out]; rfl
        have p0_2 : w14.cell? ⟨B0, 2, none⟩ = some (.int .i64 ho) := by rw [cell_of_row _ _ _ _ _ _ HB0.out]; rfl
        have y0 := block_lt_of_cell p0_1
        obtain ⟨B7, hB7⟩ : ∃ x, x = w14.heap.size := ⟨_, rfl⟩
        obtain ⟨W15, hW⟩ : ∃ x, x = (w14.alloc (.cells #[.int .i64 Tb.zero.next, .slice ao7 k7 cap7] 24)) := ⟨_, rfl⟩
        have A15 := hid (show w14.grownBy W15 none from by rw [hW]; (repeat (first | exact World.grownBy.refl _ _ | refine grown_trans ?_ (World.grownBy_alloc _ _ _))))
        have HB7 := hid (show W15.heap[B7]? = some (.cells #[.int .i64 Tb.zero.next, .slice ao7 k7 cap7] 24 (0, 0)) from by rw [hW, hB7]; rw [heap_at (by simp <;> omega)])
        have HW15 := hid (And.intro hW (And.intro hB7 True.intro))
        clear hW hB7
        go_wp2_with fail
        try rw [← HW15.out.1]
        try rw [← HW15.out.2.1]
        clear p6_0 p6_1 y6 p0_1 p0_2 y0
        replace HB0 := hid (row_of A15.out HB0.out (by simp))
        replace HB9 := hid (row_of A15.out HB9.out (by simp))
        replace HB1 := hid (row_of A15.out HB1.out (by simp))
        replace HB2 := hid (row_of A15.out HB2.out (by simp))
        replace HB3 := hid (row_of A15.out HB3.out (by simp))
        replace HB4 := hid (row_of A15.out HB4.out (by simp))
        replace HB5 := hid (row_of A15.out HB5.out (by simp))
        replace HB6 := hid (row_of A15.out HB6.out (by simp))
        replace HRa := hid (Sl.kn HRa.out A15.out)
        replace HRt := hid (Sl.kn HRt.out A15.out)
        replace HRx := hid (Sl.kn HRx.out A15.out)
        replace HRy := hid (Sl.kn HRy.out A15.out)
        replace HG := hid (grown_trans HG.out A15.out)
        refine (relP_call (t := ⟨ny, Y⟩) hs.out HRy.out (World.grownBy.refl _ _) hY).mono ?_
        rintro e w16 ⟨ao8, k8, cap8, rfl, M8⟩
        have G16 := hid (show W15.grownBy w16 none from M8.out.2)
        replace HB0 := hid (row_of G16.out HB0.out (by simp))
        replace HB9 := hid (row_of G16.out HB9.out (by simp))
        replace HB1 := hid (row_of G16.out HB1.out (by simp))
        replace HB2 := hid (row_of G16.out HB2.out (by simp))
        replace HB3 := hid (row_of G16.out HB3.out (by simp))
        replace HB4 := hid (row_of G16.out HB4.out (by simp))
        replace HB5 := hid (row_of G16.out HB5.out (by simp))
        replace HB6 := hid (row_of G16.out HB6.out (by simp))
        replace HB7 := hid (row_of G16.out HB7.out (by simp))
        replace HRa := hid (Sl.kn HRa.out G16.out)
        replace HRt := hid (Sl.kn HRt.out G16.out)
        replace HRx := hid (Sl.kn HRx.out G16.out)
        replace HRy := hid (Sl.kn HRy.out G16.out)
        replace HG := hid (grown_trans HG.out G16.out)
        obtain ⟨B8, hB8⟩ : ∃ x, x = w16.heap.size := ⟨_, rfl⟩
        obtain ⟨W17, hW⟩ : ∃ x, x = (w16.alloc (.cells #[.int .i64 Tb.zero.next, .slice ao8 k8 cap8] 24)) := ⟨_, rfl⟩
        have A17 := hid (show w16.grownBy W17 none from by rw [hW]; (repeat (first | exact World.grownBy.refl _ _ | refine grown_trans ?_ (World.grownBy_alloc _ _ _))))
        have HB8 := hid (show W17.heap[B8]? = some (.cells #[.int .i64 Tb.zero.next, .slice ao8 k8 cap8] 24 (0, 0)) from by rw [hW, hB8]; rw [heap_at (by simp <;> omega)])
        have HW17 := hid (And.intro hW (And.intro hB8 True.intro))
        clear hW hB8
        go_wp2_with fail
        try rw [← HW17.out.1]
        try rw [← HW17.out.2.1]
        replace HB0 := hid (row_of A17.out HB0.out (by simp))
        replace HB9 := hid (row_of A17.out HB9.out (by simp))
        replace HB1 := hid (row_of A17.out HB1.out (by simp))
        replace HB2 := hid (row_of A17.out HB2.out (by simp))
        replace HB3 := hid (row_of A17.out HB3.out (by simp))
        replace HB4 := hid (row_of A17.out HB4.out (by simp))
        replace HB5 := hid (row_of A17.out HB5.out (by simp))
        replace HB6 := hid (row_of A17.out HB6.out (by simp))
        replace HB7 := hid (row_of A17.out HB7.out (by simp))
        replace HRa := hid (Sl.kn HRa.out A17.out)
        replace HRt := hid (Sl.kn HRt.out A17.out)
        replace HRx := hid (Sl.kn HRx.out A17.out)
        replace HRy := hid (Sl.kn HRy.out A17.out)
        replace HG := hid (grown_trans HG.out A17.out)
        refine (awk_call (World.grownBy.refl _ _)).mono ?_
        rintro e w18 ⟨rfl, M10⟩
        have G18 := hid (show W17.grownBy w18 none from M10.out)
        replace HB0 := hid (row_of G18.out HB0.out (by simp))
        replace HB9 := hid (row_of G18.out HB9.out (by simp))
        replace HB1 := hid (row_of G18.out HB1.out (by simp))
        replace HB2 := hid (row_of G18.out HB2.out (by simp))
        replace HB3 := hid (row_of G18.out HB3.out (by simp))
        replace HB4 := hid (row_of G18.out HB4.out (by simp))
        replace HB5 := hid (row_of G18.out HB5.out (by simp))
        replace HB6 := hid (row_of G18.out HB6.out (by simp))
        replace HB7 := hid (row_of G18.out HB7.out (by simp))
        replace HB8 := hid (row_of G18.out HB8.out (by simp))
        replace HRa := hid (Sl.kn HRa.out G18.out)
        replace HRt := hid (Sl.kn HRt.out G18.out)
        replace HRx := hid (Sl.kn HRx.out G18.out)
        replace HRy := hid (Sl.kn HRy.out G18.out)
        replace HG := hid (grown_trans HG.out G18.out)
        go_wp2
        go_ret
        exact ⟨rfl, HG.out⟩
  · obtain ⟨⟨⟨nx, X⟩, t1, er⟩, hx⟩ : ∃ q, acq cds ⟨next, ls⟩ n ho now d = q := ⟨_, rfl⟩
    rw [hx] at he
    simp only at he
    have he2 : (er != 0) = true := by simpa using he
    clear he
    have HX := hid hx
    clear hx
    refine (acqP_call (t := ⟨next, ls⟩) HX.out HRt.out (World.grownBy.refl _ _) hls).mono ?_
    rintro e w4 ⟨ao2, k2, cap2, rfl, M2⟩
    have G4 := hid (show W3.grownBy w4 none from M2.out.2)
    replace HB0 := hid (row_of G4.out HB0.out (by simp))
    replace HB9 := hid (row_of G4.out HB9.out (by simp))
    replace HB1 := hid (row_of G4.out HB1.out (by simp))
    replace HRa := hid (Sl.kn HRa.out G4.out)
    replace HRt := hid (Sl.kn HRt.out G4.out)
    replace HG := hid (grown_trans HG.out G4.out)
    have HRx := hid M2.out.1
    have p0_5 : w4.cell? ⟨B0, 5, none⟩ = some (.int .i64 d) := by rw [cell_of_row _ _ _ _ _ _ HB0.out]; rfl
    have y0 := block_lt_of_cell p0_5
    obtain ⟨B2, hB2⟩ : ∃ x, x = w4.heap.size := ⟨_, rfl⟩
    obtain ⟨W5, hW⟩ : ∃ x, x = (w4.alloc (.cells #[.int .i64 nx, .slice ao2 k2 cap2] 24)) := ⟨_, rfl⟩
    have A5 := hid (show w4.grownBy W5 none from by rw [hW]; (repeat (first | exact World.grownBy.refl _ _ | refine grown_trans ?_ (World.grownBy_alloc _ _ _))))
    have HB2 := hid (show W5.heap[B2]? = some (.cells #[.int .i64 nx, .slice ao2 k2 cap2] 24 (0, 0)) from by rw [hW, hB2]; rw [heap_at (by simp <;> omega)])
    have HW5 := hid (And.intro hW (And.intro hB2 True.intro))
    clear hW hB2
    go_wp2_with fail
    try rw [← HW5.out.1]
    try rw [← HW5.out.2.1]
    clear p0_5 y0
    replace HB0 := hid (row_of A5.out HB0.out (by simp))
    replace HB9 := hid (row_of A5.out HB9.out (by simp))
    replace HB1 := hid (row_of A5.out HB1.out (by simp))
    replace HRa := hid (Sl.kn HRa.out A5.out)
    replace HRt := hid (Sl.kn HRt.out A5.out)
    replace HRx := hid (Sl.kn HRx.out A5.out)
    replace HG := hid (grown_trans HG.out A5.out)
    refine (awk_call (World.grownBy.refl _ _)).mono ?_
    rintro e w6 ⟨rfl, M3⟩
    have G6 := hid (show W5.grownBy w6 none from M3.out)
    replace HB0 := hid (row_of G6.out HB0.out (by simp))
    replace HB9 := hid (row_of G6.out HB9.out (by simp))
    replace HB1 := hid (row_of G6.out HB1.out (by simp))
    replace HB2 := hid (row_of G6.out HB2.out (by simp))
    replace HRa := hid (Sl.kn HRa.out G6.out)
    replace HRt := hid (Sl.kn HRt.out G6.out)
    replace HRx := hid (Sl.kn HRx.out G6.out)
    replace HG := hid (grown_trans HG.out G6.out)
    go_wp2
    go_ret
    exact ⟨rfl, HG.out⟩
end Go.Proofs.Ytafippjpaakonaa
