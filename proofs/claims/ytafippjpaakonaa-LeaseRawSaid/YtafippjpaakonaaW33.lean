/- Leases: the law LeaseRaw. (printed by gen_w33.py) -/
import Derived.Test.YtafippjpaakonaaW30
namespace Go.Proofs.Ytafippjpaakonaa
open Go.RowKit
set_option linter.unusedSimpArgs false
set_option linter.unusedVariables false

set_option maxRecDepth 100000 in
set_option maxHeartbeats 4000000 in
theorem raw_walk (t : Tb) (s : Value) (a : Ac) (w : World) (hR : Rd w s t.ls) :
    Calls Try.prog 8 #[tval t.next s, aval a] w fun e w' => e = .returned (.bool true) ∧ w.grownBy w' none := by
  obtain ⟨next, ls⟩ := t
  simp only at hR ⊢
  obtain ⟨kd, n, ho, tk, now, d⟩ := a
  obtain ⟨ao, cap, rfl, hc1, hc2⟩ := Sl.shape hR
  have HRt := hid hR
  clear hR
  unfold aval tval
  obtain ⟨B1, hB1⟩ : ∃ x, x = w.heap.size := ⟨_, rfl⟩
  obtain ⟨B0, hB0⟩ : ∃ x, x = w.heap.size + 1 := ⟨_, rfl⟩
  obtain ⟨W1, hW⟩ : ∃ x, x = ((w.alloc (.cells #[.int .i64 next, .slice ao ls.length cap] 24)).alloc (.cells #[.int .i64 kd, .int .i64 n, .int .i64 ho, .int .i64 tk, .int .i64 now, .int .i64 d] 35)) := ⟨_, rfl⟩
  have A1 := hid (show w.grownBy W1 none from by rw [hW]; (repeat (first | exact World.grownBy.refl _ _ | refine grown_trans ?_ (World.grownBy_alloc _ _ _))))
  have HB1 := hid (show W1.heap[B1]? = some (.cells #[.int .i64 next, .slice ao ls.length cap] 24 (0, 0)) from by rw [hW, hB1]; rw [heap_past (by simp <;> omega), heap_at (by simp <;> omega)])
  have HB0 := hid (show W1.heap[B0]? = some (.cells #[.int .i64 kd, .int .i64 n, .int .i64 ho, .int .i64 tk, .int .i64 now, .int .i64 d] 35 (0, 0)) from by rw [hW, hB0]; rw [heap_at (by simp <;> omega)])
  have HW1 := hid (show _ ∧ _ ∧ _ from ⟨hW, hB1, hB0⟩)
  clear hW hB1 hB0
  have HG := hid (World.grownBy.refl w none)
  replace HRt := hid (Sl.kn HRt.out A1.out)
  replace HG := hid (grown_trans HG.out A1.out)
  go_enter Try.func8, Try.ntmps8
  by_cases h70 : (70 : Int) < (ls.length : Int)
  · have t70 : decide ((70 : Int) < (ls.length : Int)) = true := by simpa using h70
    go_wp2_with fail
    try rw [← HW1.out.1]
    try rw [← HW1.out.2.2]
    try rw [← HW1.out.2.1]
    refine (awk_call (World.grownBy.refl _ _)).mono ?_
    rintro e w2 ⟨rfl, M2⟩
    have G2 := hid (show W1.grownBy w2 none from M2.out)
    replace HB1 := hid (row_of G2.out HB1.out (by simp))
    replace HB0 := hid (row_of G2.out HB0.out (by simp))
    replace HRt := hid (Sl.kn HRt.out G2.out)
    replace HG := hid (grown_trans HG.out G2.out)
    go_wp2
    go_ret
    exact ⟨rfl, HG.out⟩
  · have t70 : decide ((70 : Int) < (ls.length : Int)) = false := by simpa using h70
    have hls : ls.length ≤ 1000000 := by omega
    clear h70
    obtain ⟨⟨nx, L⟩, hq⟩ : ∃ q, stp ⟨next, ls⟩ ⟨kd, n, ho, tk, now, d⟩ = q := ⟨_, rfl⟩
    obtain ⟨⟨⟨xn, xh, xt, xl⟩, xb⟩, hf⟩ : ∃ q, fnd ⟨next, ls⟩ n now = q := ⟨_, rfl⟩
    obtain ⟨v, hv⟩ : ∃ v, (⟨next, ls⟩ : Tb).ok = v := ⟨_, rfl⟩
    have HQ := hid hq
    have HF := hid hf
    have HV := hid hv
    clear hq hf hv
    go_wp2_with fail
    try rw [← HW1.out.1]
    try rw [← HW1.out.2.2]
    try rw [← HW1.out.2.1]
    refine (step_call (t := ⟨next, ls⟩) (a := ⟨kd, n, ho, tk, now, d⟩) HQ.out HRt.out HRt.out (World.grownBy.refl _ _) hls).mono ?_
    rintro e w2 ⟨ao2, k2, cap2, ao3, k3, cap3, rfl, M2⟩
    have G2 := hid (show W1.grownBy w2 none from M2.out.2.2)
    replace HB1 := hid (row_of G2.out HB1.out (by simp))
    replace HB0 := hid (row_of G2.out HB0.out (by simp))
    replace HRt := hid (Sl.kn HRt.out G2.out)
    replace HG := hid (grown_trans HG.out G2.out)
    have p0_1 : w2.cell? ⟨B0, 1, none⟩ = some (.int .i64 n) := by rw [cell_of_row _ _ _ _ _ _ HB0.out]; rfl
    have p0_4 : w2.cell? ⟨B0, 4, none⟩ = some (.int .i64 now) := by rw [cell_of_row _ _ _ _ _ _ HB0.out]; rfl
    have y0 := block_lt_of_cell p0_1
    have p1_0 : w2.cell? ⟨B1, 0, none⟩ = some (.int .i64 next) := by rw [cell_of_row _ _ _ _ _ _ HB1.out]; rfl
    have p1_1 : w2.cell? ⟨B1, 1, none⟩ = some (.slice ao ls.length cap) := by rw [cell_of_row _ _ _ _ _ _ HB1.out]; rfl
    have y1 := block_lt_of_cell p1_0
    obtain ⟨B2, hB2⟩ : ∃ x, x = w2.heap.size := ⟨_, rfl⟩
    obtain ⟨B3, hB3⟩ : ∃ x, x = w2.heap.size + 1 := ⟨_, rfl⟩
    obtain ⟨W3, hW⟩ : ∃ x, x = ((w2.alloc (.cells #[.int .i64 nx, .slice ao2 k2 cap2] 24)).alloc (.cells #[.int .i64 nx, .slice ao3 k3 cap3] 24)) := ⟨_, rfl⟩
    have A3 := hid (show w2.grownBy W3 none from by rw [hW]; (repeat (first | exact World.grownBy.refl _ _ | refine grown_trans ?_ (World.grownBy_alloc _ _ _))))
    have HB2 := hid (show W3.heap[B2]? = some (.cells #[.int .i64 nx, .slice ao2 k2 cap2] 24 (0, 0)) from by rw [hW, hB2]; rw [heap_past (by simp <;> omega), heap_at (by simp <;> omega)])
    have HB3 := hid (show W3.heap[B3]? = some (.cells #[.int .i64 nx, .slice ao3 k3 cap3] 24 (0, 0)) from by rw [hW, hB3]; rw [heap_at (by simp <;> omega)])
    have HW3 := hid (show _ ∧ _ ∧ _ from ⟨hW, hB2, hB3⟩)
    clear hW hB2 hB3
    go_wp2_with fail
    try rw [← HW3.out.1]
    try rw [← HW3.out.2.2]
    try rw [← HW3.out.2.1]
    clear p0_1 p0_4 y0 p1_0 p1_1 y1
    replace HB1 := hid (row_of A3.out HB1.out (by simp))
    replace HB0 := hid (row_of A3.out HB0.out (by simp))
    replace HRt := hid (Sl.kn HRt.out A3.out)
    replace HG := hid (grown_trans HG.out A3.out)
    refine (fndP_call (t := ⟨next, ls⟩) HF.out HRt.out (World.grownBy.refl _ _) hls).mono ?_
    rintro e w4 ⟨rfl, M3⟩
    have G4 := hid (show W3.grownBy w4 none from M3)
    replace HB1 := hid (row_of G4.out HB1.out (by simp))
    replace HB0 := hid (row_of G4.out HB0.out (by simp))
    replace HB2 := hid (row_of G4.out HB2.out (by simp))
    replace HB3 := hid (row_of G4.out HB3.out (by simp))
    replace HRt := hid (Sl.kn HRt.out G4.out)
    replace HG := hid (grown_trans HG.out G4.out)
    have p0_1 : w4.cell? ⟨B0, 1, none⟩ = some (.int .i64 n) := by rw [cell_of_row _ _ _ _ _ _ HB0.out]; rfl
    have p0_4 : w4.cell? ⟨B0, 4, none⟩ = some (.int .i64 now) := by rw [cell_of_row _ _ _ _ _ _ HB0.out]; rfl
    have y0 := block_lt_of_cell p0_1
    have p1_0 : w4.cell? ⟨B1, 0, none⟩ = some (.int .i64 next) := by rw [cell_of_row _ _ _ _ _ _ HB1.out]; rfl
    have p1_1 : w4.cell? ⟨B1, 1, none⟩ = some (.slice ao ls.length cap) := by rw [cell_of_row _ _ _ _ _ _ HB1.out]; rfl
    have y1 := block_lt_of_cell p1_0
    obtain ⟨B4, hB4⟩ : ∃ x, x = w4.heap.size := ⟨_, rfl⟩
    obtain ⟨W5, hW⟩ : ∃ x, x = (w4.alloc (.cells #[.int .i64 xn, .int .i64 xh, .int .i64 xt, .int .i64 xl] 38)) := ⟨_, rfl⟩
    have A5 := hid (show w4.grownBy W5 none from by rw [hW]; (repeat (first | exact World.grownBy.refl _ _ | refine grown_trans ?_ (World.grownBy_alloc _ _ _))))
    have HB4 := hid (show W5.heap[B4]? = some (.cells #[.int .i64 xn, .int .i64 xh, .int .i64 xt, .int .i64 xl] 38 (0, 0)) from by rw [hW, hB4]; rw [heap_at (by simp <;> omega)])
    have HW5 := hid (And.intro hW (And.intro hB4 True.intro))
    clear hW hB4
    go_wp2_with fail
    try rw [← HW5.out.1]
    try rw [← HW5.out.2.1]
    clear p0_1 p0_4 y0 p1_0 p1_1 y1
    replace HB1 := hid (row_of A5.out HB1.out (by simp))
    replace HB0 := hid (row_of A5.out HB0.out (by simp))
    replace HB2 := hid (row_of A5.out HB2.out (by simp))
    replace HB3 := hid (row_of A5.out HB3.out (by simp))
    replace HRt := hid (Sl.kn HRt.out A5.out)
    replace HG := hid (grown_trans HG.out A5.out)
    refine (fndR_call (t := ⟨next, ls⟩) HF.out HRt.out (World.grownBy.refl _ _) hls).mono ?_
    rintro e w6 ⟨rfl, M4⟩
    have G6 := hid (show W5.grownBy w6 none from M4)
    replace HB1 := hid (row_of G6.out HB1.out (by simp))
    replace HB0 := hid (row_of G6.out HB0.out (by simp))
    replace HB2 := hid (row_of G6.out HB2.out (by simp))
    replace HB3 := hid (row_of G6.out HB3.out (by simp))
    replace HB4 := hid (row_of G6.out HB4.out (by simp))
    replace HRt := hid (Sl.kn HRt.out G6.out)
    replace HG := hid (grown_trans HG.out G6.out)
    have p1_0 : w6.cell? ⟨B1, 0, none⟩ = some (.int .i64 next) := by rw [cell_of_row _ _ _ _ _ _ HB1.out]; rfl
    have p1_1 : w6.cell? ⟨B1, 1, none⟩ = some (.slice ao ls.length cap) := by rw [cell_of_row _ _ _ _ _ _ HB1.out]; rfl
    have y1 := block_lt_of_cell p1_0
    have p4_0 : w6.cell? ⟨B4, 0, none⟩ = some (.int .i64 xn) := by rw [cell_of_row _ _ _ _ _ _ HB4.out]; rfl
    have p4_1 : w6.cell? ⟨B4, 1, none⟩ = some (.int .i64 xh) := by rw [cell_of_row _ _ _ _ _ _ HB4.out]; rfl
    have p4_2 : w6.cell? ⟨B4, 2, none⟩ = some (.int .i64 xt) := by rw [cell_of_row _ _ _ _ _ _ HB4.out]; rfl
    have p4_3 : w6.cell? ⟨B4, 3, none⟩ = some (.int .i64 xl) := by rw [cell_of_row _ _ _ _ _ _ HB4.out]; rfl
    have y4 := block_lt_of_cell p4_0
    obtain ⟨B5, hB5⟩ : ∃ x, x = w6.heap.size := ⟨_, rfl⟩
    obtain ⟨W7, hW⟩ : ∃ x, x = (w6.alloc (.cells #[.int .i64 xn, .int .i64 xh, .int .i64 xt, .int .i64 xl] 38)) := ⟨_, rfl⟩
    have A7 := hid (show w6.grownBy W7 none from by rw [hW]; (repeat (first | exact World.grownBy.refl _ _ | refine grown_trans ?_ (World.grownBy_alloc _ _ _))))
    have HB5 := hid (show W7.heap[B5]? = some (.cells #[.int .i64 xn, .int .i64 xh, .int .i64 xt, .int .i64 xl] 38 (0, 0)) from by rw [hW, hB5]; rw [heap_at (by simp <;> omega)])
    have HW7 := hid (And.intro hW (And.intro hB5 True.intro))
    clear hW hB5
    go_wp2
    try rw [← HW7.out.1]
    try rw [← HW7.out.2.1]
    clear p1_0 p1_1 y1 p4_0 p4_1 p4_2 p4_3 y4
    replace HB1 := hid (row_of A7.out HB1.out (by simp))
    replace HB0 := hid (row_of A7.out HB0.out (by simp))
    replace HB2 := hid (row_of A7.out HB2.out (by simp))
    replace HB3 := hid (row_of A7.out HB3.out (by simp))
    replace HB4 := hid (row_of A7.out HB4.out (by simp))
    replace HRt := hid (Sl.kn HRt.out A7.out)
    replace HG := hid (grown_trans HG.out A7.out)
    have p1_0 : W7.cell? ⟨B1, 0, none⟩ = some (.int .i64 next) := by rw [cell_of_row _ _ _ _ _ _ HB1.out]; rfl
    have p1_1 : W7.cell? ⟨B1, 1, none⟩ = some (.slice ao ls.length cap) := by rw [cell_of_row _ _ _ _ _ _ HB1.out]; rfl
    have y1 := block_lt_of_cell p1_0
    have p4_0 : W7.cell? ⟨B4, 0, none⟩ = some (.int .i64 xn) := by rw [cell_of_row _ _ _ _ _ _ HB4.out]; rfl
    have p4_1 : W7.cell? ⟨B4, 1, none⟩ = some (.int .i64 xh) := by rw [cell_of_row _ _ _ _ _ _ HB4.out]; rfl
    have p4_2 : W7.cell? ⟨B4, 2, none⟩ = some (.int .i64 xt) := by rw [cell_of_row _ _ _ _ _ _ HB4.out]; rfl
    have p4_3 : W7.cell? ⟨B4, 3, none⟩ = some (.int .i64 xl) := by rw [cell_of_row _ _ _ _ _ _ HB4.out]; rfl
    have y4 := block_lt_of_cell p4_0
    have p5_0 : W7.cell? ⟨B5, 0, none⟩ = some (.int .i64 xn) := by rw [cell_of_row _ _ _ _ _ _ HB5.out]; rfl
    have p5_1 : W7.cell? ⟨B5, 1, none⟩ = some (.int .i64 xh) := by rw [cell_of_row _ _ _ _ _ _ HB5.out]; rfl
    have p5_2 : W7.cell? ⟨B5, 2, none⟩ = some (.int .i64 xt) := by rw [cell_of_row _ _ _ _ _ _ HB5.out]; rfl
    have p5_3 : W7.cell? ⟨B5, 3, none⟩ = some (.int .i64 xl) := by rw [cell_of_row _ _ _ _ _ _ HB5.out]; rfl
    have y5 := block_lt_of_cell p5_0
    go_region_law (go_simp; first
      | (refine (vldP_call (t := ⟨next, ls⟩) HV.out HRt.out (grown_drew _) hls).mono ?_; rintro e v6 ⟨rfl, g6⟩; have G6 := hid g6; clear g6; have p1_0 : v6.cell? ⟨B1, 0, none⟩ = some (.int .i64 next) := (by rw [cell_of_row _ _ _ _ _ _ (row_of G6.out HB1.out (by simp))]; rfl); have p1_1 : v6.cell? ⟨B1, 1, none⟩ = some (.slice ao ls.length cap) := (by rw [cell_of_row _ _ _ _ _ _ (row_of G6.out HB1.out (by simp))]; rfl); have p4_0 : v6.cell? ⟨B4, 0, none⟩ = some (.int .i64 xn) := (by rw [cell_of_row _ _ _ _ _ _ (row_of G6.out HB4.out (by simp))]; rfl); have p4_1 : v6.cell? ⟨B4, 1, none⟩ = some (.int .i64 xh) := (by rw [cell_of_row _ _ _ _ _ _ (row_of G6.out HB4.out (by simp))]; rfl); have p4_2 : v6.cell? ⟨B4, 2, none⟩ = some (.int .i64 xt) := (by rw [cell_of_row _ _ _ _ _ _ (row_of G6.out HB4.out (by simp))]; rfl); have p4_3 : v6.cell? ⟨B4, 3, none⟩ = some (.int .i64 xl) := (by rw [cell_of_row _ _ _ _ _ _ (row_of G6.out HB4.out (by simp))]; rfl); have p5_0 : v6.cell? ⟨B5, 0, none⟩ = some (.int .i64 xn) := (by rw [cell_of_row _ _ _ _ _ _ (row_of G6.out HB5.out (by simp))]; rfl); have p5_1 : v6.cell? ⟨B5, 1, none⟩ = some (.int .i64 xh) := (by rw [cell_of_row _ _ _ _ _ _ (row_of G6.out HB5.out (by simp))]; rfl); have p5_2 : v6.cell? ⟨B5, 2, none⟩ = some (.int .i64 xt) := (by rw [cell_of_row _ _ _ _ _ _ (row_of G6.out HB5.out (by simp))]; rfl); have p5_3 : v6.cell? ⟨B5, 3, none⟩ = some (.int .i64 xl) := (by rw [cell_of_row _ _ _ _ _ _ (row_of G6.out HB5.out (by simp))]; rfl); dsimp only)
      | (refine (vldR_call (t := ⟨next, ls⟩) HV.out HRt.out G6.out hls).mono ?_; rintro e v7 ⟨rfl, g7⟩; have G7 := hid g7; clear g7; have p1_0 : v7.cell? ⟨B1, 0, none⟩ = some (.int .i64 next) := (by rw [cell_of_row _ _ _ _ _ _ (row_of G7.out HB1.out (by simp))]; rfl); have p1_1 : v7.cell? ⟨B1, 1, none⟩ = some (.slice ao ls.length cap) := (by rw [cell_of_row _ _ _ _ _ _ (row_of G7.out HB1.out (by simp))]; rfl); have p4_0 : v7.cell? ⟨B4, 0, none⟩ = some (.int .i64 xn) := (by rw [cell_of_row _ _ _ _ _ _ (row_of G7.out HB4.out (by simp))]; rfl); have p4_1 : v7.cell? ⟨B4, 1, none⟩ = some (.int .i64 xh) := (by rw [cell_of_row _ _ _ _ _ _ (row_of G7.out HB4.out (by simp))]; rfl); have p4_2 : v7.cell? ⟨B4, 2, none⟩ = some (.int .i64 xt) := (by rw [cell_of_row _ _ _ _ _ _ (row_of G7.out HB4.out (by simp))]; rfl); have p4_3 : v7.cell? ⟨B4, 3, none⟩ = some (.int .i64 xl) := (by rw [cell_of_row _ _ _ _ _ _ (row_of G7.out HB4.out (by simp))]; rfl); have p5_0 : v7.cell? ⟨B5, 0, none⟩ = some (.int .i64 xn) := (by rw [cell_of_row _ _ _ _ _ _ (row_of G7.out HB5.out (by simp))]; rfl); have p5_1 : v7.cell? ⟨B5, 1, none⟩ = some (.int .i64 xh) := (by rw [cell_of_row _ _ _ _ _ _ (row_of G7.out HB5.out (by simp))]; rfl); have p5_2 : v7.cell? ⟨B5, 2, none⟩ = some (.int .i64 xt) := (by rw [cell_of_row _ _ _ _ _ _ (row_of G7.out HB5.out (by simp))]; rfl); have p5_3 : v7.cell? ⟨B5, 3, none⟩ = some (.int .i64 xl) := (by rw [cell_of_row _ _ _ _ _ _ (row_of G7.out HB5.out (by simp))]; rfl); dsimp only)
      | (refine (awk_call G7.out).mono ?_; rintro e v8 ⟨rfl, G8⟩; dsimp only)
      | fail)
    all_goals go_wp2
    all_goals go_ret
    all_goals exact ⟨rfl, grown_trans HG.out G8.out⟩
end Go.Proofs.Ytafippjpaakonaa
