/- Leases: the law LeaseOthers. (printed by gen_w31.py) -/
import Derived.Test.YtafippjpaakonaaW30
namespace Go.Proofs.Ytafippjpaakonaa
open Go.RowKit
set_option linter.unusedSimpArgs false
set_option linter.unusedVariables false

set_option maxRecDepth 100000 in
set_option maxHeartbeats 4000000 in
theorem others_walk (l : List Ac) (s : Value) (a : Ac) (m : Int) (w : World) (hA : RdA w s l) :
    Calls Try.prog 9 #[s, aval a, .int .i64 m] w fun e w' => e = .returned (.bool true) ∧ w.grownBy w' none := by
  obtain ⟨kd, n, ho, tk, now, d⟩ := a
  obtain ⟨ao, cap, rfl, hc1, hc2⟩ := Sl.shape hA
  have HRa := hid hA
  clear hA
  unfold aval
  obtain ⟨⟨next, ls⟩, ht⟩ : ∃ q, mk l = q := ⟨_, rfl⟩
  have hls : ls.length ≤ 1000000 := by have h := (mk_ok l).2; rw [ht] at h; exact Nat.le_trans h (by decide)
  have HT := hid ht
  clear ht
  obtain ⟨B0, hB0⟩ : ∃ x, x = w.heap.size := ⟨_, rfl⟩
  obtain ⟨W1, hW⟩ : ∃ x, x = (w.alloc (.cells #[.int .i64 kd, .int .i64 n, .int .i64 ho, .int .i64 tk, .int .i64 now, .int .i64 d] 35)) := ⟨_, rfl⟩
  have A1 := hid (show w.grownBy W1 none from by rw [hW]; (repeat (first | exact World.grownBy.refl _ _ | refine grown_trans ?_ (World.grownBy_alloc _ _ _))))
  have HB0 := hid (show W1.heap[B0]? = some (.cells #[.int .i64 kd, .int .i64 n, .int .i64 ho, .int .i64 tk, .int .i64 now, .int .i64 d] 35 (0, 0)) from by rw [hW, hB0]; rw [heap_at (by simp <;> omega)])
  have HW1 := hid (And.intro hW (And.intro hB0 True.intro))
  clear hW hB0
  have HG := hid (World.grownBy.refl w none)
  replace HRa := hid (Sl.kn HRa.out A1.out)
  replace HG := hid (grown_trans HG.out A1.out)
  go_enter Try.func9, Try.ntmps9
  go_wp2_with fail
  try rw [← HW1.out.1]
  try rw [← HW1.out.2.1]
  refine (made_call HT.out HRa.out (World.grownBy.refl _ _)).mono ?_
  rintro e w2 ⟨ao1, k1, cap1, rfl, M1⟩
  have G2 := hid (show W1.grownBy w2 none from M1.out.2)
  replace HB0 := hid (row_of G2.out HB0.out (by simp))
  replace HRa := hid (Sl.kn HRa.out G2.out)
  replace HG := hid (grown_trans HG.out G2.out)
  have HRt := hid M1.out.1
  have p0_0 : w2.cell? ⟨B0, 0, none⟩ = some (.int .i64 kd) := by rw [cell_of_row _ _ _ _ _ _ HB0.out]; rfl
  have p0_1 : w2.cell? ⟨B0, 1, none⟩ = some (.int .i64 n) := by rw [cell_of_row _ _ _ _ _ _ HB0.out]; rfl
  have y0 := block_lt_of_cell p0_0
  obtain ⟨B1, hB1⟩ : ∃ x, x = w2.heap.size := ⟨_, rfl⟩
  obtain ⟨W3, hW⟩ : ∃ x, x = (w2.alloc (.cells #[.int .i64 next, .slice ao1 k1 cap1] 24)) := ⟨_, rfl⟩
  have A3 := hid (show w2.grownBy W3 none from by rw [hW]; (repeat (first | exact World.grownBy.refl _ _ | refine grown_trans ?_ (World.grownBy_alloc _ _ _))))
  have HB1 := hid (show W3.heap[B1]? = some (.cells #[.int .i64 next, .slice ao1 k1 cap1] 24 (0, 0)) from by rw [hW, hB1]; rw [heap_at (by simp <;> omega)])
  have HW3 := hid (And.intro hW (And.intro hB1 True.intro))
  clear hW hB1
  by_cases h3 : bits .and .i64 kd 3 = 3
  · have t3 : (bits .and .i64 kd 3 == 3) = true := by rw [h3]; rfl
    go_wp2_with fail
    try rw [← HW3.out.1]
    try rw [← HW3.out.2.1]
    clear p0_0 p0_1 y0
    replace HB0 := hid (row_of A3.out HB0.out (by simp))
    replace HRa := hid (Sl.kn HRa.out A3.out)
    replace HRt := hid (Sl.kn HRt.out A3.out)
    replace HG := hid (grown_trans HG.out A3.out)
    refine (awk_call (World.grownBy.refl _ _)).mono ?_
    rintro e w4 ⟨rfl, M2⟩
    have G4 := hid (show W3.grownBy w4 none from M2.out)
    replace HB0 := hid (row_of G4.out HB0.out (by simp))
    replace HB1 := hid (row_of G4.out HB1.out (by simp))
    replace HRa := hid (Sl.kn HRa.out G4.out)
    replace HRt := hid (Sl.kn HRt.out G4.out)
    replace HG := hid (grown_trans HG.out G4.out)
    go_wp2
    go_ret
    exact ⟨rfl, HG.out⟩
  · have t3 : (bits .and .i64 kd 3 == 3) = false := by simpa using h3
    have H3 := hid h3
    clear h3
    by_cases hn : n = m
    · have t4 : (n == m) = true := by simpa using hn
      clear hn
      go_wp2_with fail
      try rw [← HW3.out.1]
      try rw [← HW3.out.2.1]
      clear p0_0 p0_1 y0
      replace HB0 := hid (row_of A3.out HB0.out (by simp))
      replace HRa := hid (Sl.kn HRa.out A3.out)
      replace HRt := hid (Sl.kn HRt.out A3.out)
      replace HG := hid (grown_trans HG.out A3.out)
      refine (awk_call (World.grownBy.refl _ _)).mono ?_
      rintro e w4 ⟨rfl, M2⟩
      have G4 := hid (show W3.grownBy w4 none from M2.out)
      replace HB0 := hid (row_of G4.out HB0.out (by simp))
      replace HB1 := hid (row_of G4.out HB1.out (by simp))
      replace HRa := hid (Sl.kn HRa.out G4.out)
      replace HRt := hid (Sl.kn HRt.out G4.out)
      replace HG := hid (grown_trans HG.out G4.out)
      go_wp2
      go_ret
      exact ⟨rfl, HG.out⟩
    · have t4 : (n == m) = false := by simpa using hn
      have HN := hid hn
      clear hn
      obtain ⟨⟨nx, L⟩, hq⟩ : ∃ q, stp ⟨next, ls⟩ ⟨kd, n, ho, tk, now, d⟩ = q := ⟨_, rfl⟩
      obtain ⟨⟨⟨xn, xh, xt, xl⟩, xb⟩, hf⟩ : ∃ q, fnd ⟨next, ls⟩ m now = q := ⟨_, rfl⟩
      have HF2 := hid (show fnd ⟨nx, L⟩ m now = (⟨xn, xh, xt, xl⟩, xb) from by rw [← hq, ← hf, ← HT.out]; exact law_others l (a := ⟨kd, n, ho, tk, now, d⟩) H3.out HN.out)
      have hL : L.length ≤ 1000000 := by have h := stp_len ⟨next, ls⟩ ⟨kd, n, ho, tk, now, d⟩ (by have h := (mk_ok l).2; rw [HT.out] at h; exact Nat.le_trans h (by decide)); rw [hq] at h; exact Nat.le_trans h (by decide)
      have HQ := hid hq
      have HF := hid hf
      clear hq hf
      have p0_2 : w2.cell? ⟨B0, 2, none⟩ = some (.int .i64 ho) := by rw [cell_of_row _ _ _ _ _ _ HB0.out]; rfl
      have p0_3 : w2.cell? ⟨B0, 3, none⟩ = some (.int .i64 tk) := by rw [cell_of_row _ _ _ _ _ _ HB0.out]; rfl
      have p0_4 : w2.cell? ⟨B0, 4, none⟩ = some (.int .i64 now) := by rw [cell_of_row _ _ _ _ _ _ HB0.out]; rfl
      have p0_5 : w2.cell? ⟨B0, 5, none⟩ = some (.int .i64 d) := by rw [cell_of_row _ _ _ _ _ _ HB0.out]; rfl
      go_wp2_with fail
      try rw [← HW3.out.1]
      try rw [← HW3.out.2.1]
      clear p0_0 p0_1 y0 p0_2 p0_3 p0_4 p0_5
      replace HB0 := hid (row_of A3.out HB0.out (by simp))
      replace HRa := hid (Sl.kn HRa.out A3.out)
      replace HRt := hid (Sl.kn HRt.out A3.out)
      replace HG := hid (grown_trans HG.out A3.out)
      refine (step_call (t := ⟨next, ls⟩) (a := ⟨kd, n, ho, tk, now, d⟩) HQ.out HRt.out HRt.out (World.grownBy.refl _ _) hls).mono ?_
      rintro e w4 ⟨ao2, k2, cap2, ao3, k3, cap3, rfl, M2⟩
      have G4 := hid (show W3.grownBy w4 none from M2.out.2.2)
      replace HB0 := hid (row_of G4.out HB0.out (by simp))
      replace HB1 := hid (row_of G4.out HB1.out (by simp))
      replace HRa := hid (Sl.kn HRa.out G4.out)
      replace HRt := hid (Sl.kn HRt.out G4.out)
      replace HG := hid (grown_trans HG.out G4.out)
      have HRx := hid M2.out.1
      have p0_4 : w4.cell? ⟨B0, 4, none⟩ = some (.int .i64 now) := by rw [cell_of_row _ _ _ _ _ _ HB0.out]; rfl
      have y0 := block_lt_of_cell p0_4
      have p1_0 : w4.cell? ⟨B1, 0, none⟩ = some (.int .i64 next) := by rw [cell_of_row _ _ _ _ _ _ HB1.out]; rfl
      have p1_1 : w4.cell? ⟨B1, 1, none⟩ = some (.slice ao1 k1 cap1) := by rw [cell_of_row _ _ _ _ _ _ HB1.out]; rfl
      have y1 := block_lt_of_cell p1_0
      obtain ⟨B2, hB2⟩ : ∃ x, x = w4.heap.size := ⟨_, rfl⟩
      obtain ⟨B3, hB3⟩ : ∃ x, x = w4.heap.size + 1 := ⟨_, rfl⟩
      obtain ⟨W5, hW⟩ : ∃ x, x = ((w4.alloc (.cells #[.int .i64 nx, .slice ao2 k2 cap2] 24)).alloc (.cells #[.int .i64 nx, .slice ao3 k3 cap3] 24)) := ⟨_, rfl⟩
      have A5 := hid (show w4.grownBy W5 none from by rw [hW]; (repeat (first | exact World.grownBy.refl _ _ | refine grown_trans ?_ (World.grownBy_alloc _ _ _))))
      have HB2 := hid (show W5.heap[B2]? = some (.cells #[.int .i64 nx, .slice ao2 k2 cap2] 24 (0, 0)) from by rw [hW, hB2]; rw [heap_past (by simp <;> omega), heap_at (by simp <;> omega)])
      have HB3 := hid (show W5.heap[B3]? = some (.cells #[.int .i64 nx, .slice ao3 k3 cap3] 24 (0, 0)) from by rw [hW, hB3]; rw [heap_at (by simp <;> omega)])
      have HW5 := hid (show _ ∧ _ ∧ _ from ⟨hW, hB2, hB3⟩)
      clear hW hB2 hB3
      go_wp2_with fail
      try rw [← HW5.out.1]
      try rw [← HW5.out.2.2]
      try rw [← HW5.out.2.1]
      clear p0_4 y0 p1_0 p1_1 y1
      replace HB0 := hid (row_of A5.out HB0.out (by simp))
      replace HB1 := hid (row_of A5.out HB1.out (by simp))
      replace HRa := hid (Sl.kn HRa.out A5.out)
      replace HRt := hid (Sl.kn HRt.out A5.out)
      replace HRx := hid (Sl.kn HRx.out A5.out)
      replace HG := hid (grown_trans HG.out A5.out)
      refine (fndP_call (t := ⟨next, ls⟩) HF.out HRt.out (World.grownBy.refl _ _) hls).mono ?_
      rintro e w6 ⟨rfl, M3⟩
      have G6 := hid (show W5.grownBy w6 none from M3)
      replace HB0 := hid (row_of G6.out HB0.out (by simp))
      replace HB1 := hid (row_of G6.out HB1.out (by simp))
      replace HB2 := hid (row_of G6.out HB2.out (by simp))
      replace HB3 := hid (row_of G6.out HB3.out (by simp))
      replace HRa := hid (Sl.kn HRa.out G6.out)
      replace HRt := hid (Sl.kn HRt.out G6.out)
      replace HRx := hid (Sl.kn HRx.out G6.out)
      replace HG := hid (grown_trans HG.out G6.out)
      have p0_4 : w6.cell? ⟨B0, 4, none⟩ = some (.int .i64 now) := by rw [cell_of_row _ _ _ _ _ _ HB0.out]; rfl
      have y0 := block_lt_of_cell p0_4
      have p2_0 : w6.cell? ⟨B2, 0, none⟩ = some (.int .i64 nx) := by rw [cell_of_row _ _ _ _ _ _ HB2.out]; rfl
      have p2_1 : w6.cell? ⟨B2, 1, none⟩ = some (.slice ao2 k2 cap2) := by rw [cell_of_row _ _ _ _ _ _ HB2.out]; rfl
      have y2 := block_lt_of_cell p2_0
      obtain ⟨B4, hB4⟩ : ∃ x, x = w6.heap.size := ⟨_, rfl⟩
      obtain ⟨W7, hW⟩ : ∃ x, x = (w6.alloc (.cells #[.int .i64 xn, .int .i64 xh, .int .i64 xt, .int .i64 xl] 38)) := ⟨_, rfl⟩
      have A7 := hid (show w6.grownBy W7 none from by rw [hW]; (repeat (first | exact World.grownBy.refl _ _ | refine grown_trans ?_ (World.grownBy_alloc _ _ _))))
      have HB4 := hid (show W7.heap[B4]? = some (.cells #[.int .i64 xn, .int .i64 xh, .int .i64 xt, .int .i64 xl] 38 (0, 0)) from by rw [hW, hB4]; rw [heap_at (by simp <;> omega)])
      have HW7 := hid (And.intro hW (And.intro hB4 True.intro))
      clear hW hB4
      go_wp2_with fail
      try rw [← HW7.out.1]
      try rw [← HW7.out.2.1]
      clear p0_4 y0 p2_0 p2_1 y2
      replace HB0 := hid (row_of A7.out HB0.out (by simp))
      replace HB1 := hid (row_of A7.out HB1.out (by simp))
      replace HB2 := hid (row_of A7.out HB2.out (by simp))
      replace HB3 := hid (row_of A7.out HB3.out (by simp))
      replace HRa := hid (Sl.kn HRa.out A7.out)
      replace HRt := hid (Sl.kn HRt.out A7.out)
      replace HRx := hid (Sl.kn HRx.out A7.out)
      replace HG := hid (grown_trans HG.out A7.out)
      refine (fndP_call (t := ⟨nx, L⟩) HF2.out HRx.out (World.grownBy.refl _ _) hL).mono ?_
      rintro e w8 ⟨rfl, M4⟩
      have G8 := hid (show W7.grownBy w8 none from M4)
      replace HB0 := hid (row_of G8.out HB0.out (by simp))
      replace HB1 := hid (row_of G8.out HB1.out (by simp))
      replace HB2 := hid (row_of G8.out HB2.out (by simp))
      replace HB3 := hid (row_of G8.out HB3.out (by simp))
      replace HB4 := hid (row_of G8.out HB4.out (by simp))
      replace HRa := hid (Sl.kn HRa.out G8.out)
      replace HRt := hid (Sl.kn HRt.out G8.out)
      replace HRx := hid (Sl.kn HRx.out G8.out)
      replace HG := hid (grown_trans HG.out G8.out)
      have p4_0 : w8.cell? ⟨B4, 0, none⟩ = some (.int .i64 xn) := by rw [cell_of_row _ _ _ _ _ _ HB4.out]; rfl
      have p4_1 : w8.cell? ⟨B4, 1, none⟩ = some (.int .i64 xh) := by rw [cell_of_row _ _ _ _ _ _ HB4.out]; rfl
      have p4_2 : w8.cell? ⟨B4, 2, none⟩ = some (.int .i64 xt) := by rw [cell_of_row _ _ _ _ _ _ HB4.out]; rfl
      have p4_3 : w8.cell? ⟨B4, 3, none⟩ = some (.int .i64 xl) := by rw [cell_of_row _ _ _ _ _ _ HB4.out]; rfl
      have y4 := block_lt_of_cell p4_0
      obtain ⟨B5, hB5⟩ : ∃ x, x = w8.heap.size := ⟨_, rfl⟩
      obtain ⟨W9, hW⟩ : ∃ x, x = (w8.alloc (.cells #[.int .i64 xn, .int .i64 xh, .int .i64 xt, .int .i64 xl] 38)) := ⟨_, rfl⟩
      have A9 := hid (show w8.grownBy W9 none from by rw [hW]; (repeat (first | exact World.grownBy.refl _ _ | refine grown_trans ?_ (World.grownBy_alloc _ _ _))))
      have HB5 := hid (show W9.heap[B5]? = some (.cells #[.int .i64 xn, .int .i64 xh, .int .i64 xt, .int .i64 xl] 38 (0, 0)) from by rw [hW, hB5]; rw [heap_at (by simp <;> omega)])
      have HW9 := hid (And.intro hW (And.intro hB5 True.intro))
      clear hW hB5
      go_wp2_with fail
      try rw [← HW9.out.1]
      try rw [← HW9.out.2.1]
      clear p4_0 p4_1 p4_2 p4_3 y4
      replace HB0 := hid (row_of A9.out HB0.out (by simp))
      replace HB1 := hid (row_of A9.out HB1.out (by simp))
      replace HB2 := hid (row_of A9.out HB2.out (by simp))
      replace HB3 := hid (row_of A9.out HB3.out (by simp))
      replace HB4 := hid (row_of A9.out HB4.out (by simp))
      replace HRa := hid (Sl.kn HRa.out A9.out)
      replace HRt := hid (Sl.kn HRt.out A9.out)
      replace HRx := hid (Sl.kn HRx.out A9.out)
      replace HG := hid (grown_trans HG.out A9.out)
      refine (awk_call (World.grownBy.refl _ _)).mono ?_
      rintro e w10 ⟨rfl, M5⟩
      have G10 := hid (show W9.grownBy w10 none from M5.out)
      replace HB0 := hid (row_of G10.out HB0.out (by simp))
      replace HB1 := hid (row_of G10.out HB1.out (by simp))
      replace HB2 := hid (row_of G10.out HB2.out (by simp))
      replace HB3 := hid (row_of G10.out HB3.out (by simp))
      replace HB4 := hid (row_of G10.out HB4.out (by simp))
      replace HB5 := hid (row_of G10.out HB5.out (by simp))
      replace HRa := hid (Sl.kn HRa.out G10.out)
      replace HRt := hid (Sl.kn HRt.out G10.out)
      replace HRx := hid (Sl.kn HRx.out G10.out)
      replace HG := hid (grown_trans HG.out G10.out)
      go_wp2
      go_ret
      exact ⟨rfl, HG.out⟩
end Go.Proofs.Ytafippjpaakonaa
