/- Leases: the law LeaseFull. (printed by gen_w36.py) -/
import Derived.Test.YtafippjpaakonaaW35
namespace Go.Proofs.Ytafippjpaakonaa
open Go.RowKit
set_option linter.unusedSimpArgs false
set_option linter.unusedVariables false

set_option maxRecDepth 100000 in
set_option maxHeartbeats 8000000 in
theorem full_walk (n : Int) (w : World) : Calls Try.prog 3 #[.int .i64 n] w fun e w' => e = .returned (.bool true) ∧ w.grownBy w' none := by
  go_enter Try.func3, Try.ntmps3
  go_wp2_with fail
  refine (new_call (World.grownBy.refl w none)).mono ?_
  rintro e w1 ⟨rfl, M1⟩
  obtain ⟨BT, hB⟩ : ∃ x, x = w1.heap.size := ⟨_, rfl⟩
  have hBw : w.heap.size ≤ BT := by rw [hB]; exact M1.out.size
  obtain ⟨W, hW⟩ : ∃ W, W = w1.alloc (.cells #[.int .i64 1, .slice none 0 0] 24) := ⟨_, rfl⟩
  have F0 := hid (show TF w W BT (full 0) (.slice none 0 0) from by
    rw [hW, hB]
    exact ⟨grown_trans M1.out (World.grownBy_alloc w1 _ none), heap_at rfl, Sl.nil _ _⟩)
  have HWW := hid (And.intro hW hB)
  clear hW hB
  go_wp2_with fail
  rw [← HWW.out.1, ← HWW.out.2]
  go_loopw [4] (fun i wr => ∃ (k : Nat) (aq : Option Addr) (m ct : Nat), k ≤ 64 ∧ i = .int .i64 k ∧ TF w wr BT (full k) (.slice aq m ct)) (fun i _ => 64 - (intOf i).toNat)
  case atStart => exact ⟨0, none, 0, 0, by omega, rfl, F0.out⟩
  case round =>
    obtain ⟨k, aq, m, ct, hk, rfl, hf⟩ := hrel
    have FK := hid hf
    clear hf
    have p0 : wr.cell? ⟨BT, 0, none⟩ = some (.int .i64 (full k).next) := by rw [cell_of_row _ _ _ _ _ _ FK.out.bt]; rfl
    have p1 : wr.cell? ⟨BT, 1, none⟩ = some (.slice aq m ct) := by rw [cell_of_row _ _ _ _ _ _ FK.out.bt]; rfl
    have i1 : (0 : Int) ≤ (k : Int) := by omega
    by_cases hlt : k < 64
    · have t1 : decide ((k : Int) < 64) = true := by simp; omega
      have HS := hid (full_step ⟨k, hlt⟩)
      have hls := full_len ⟨k, by omega⟩
      have hls2 := full_len ⟨k + 1, by omega⟩
      simp only at hls hls2 HS
      obtain ⟨⟨next, ls⟩, ht⟩ : ∃ q, full k = q := ⟨_, rfl⟩
      rw [ht] at hls FK HS p0
      have HT := hid ht
      clear ht
      obtain ⟨⟨nx, L⟩, hx⟩ : ∃ q, full (k + 1) = q := ⟨_, rfl⟩
      rw [hx] at hls2 HS
      have HX := hid hx
      clear hx
      simp only at p0
      go_wp2_with fail
      refine (acqP_call (t := ⟨next, ls⟩) HS.out FK.out.rd (World.grownBy.refl _ _) hls).mono ?_
      rintro e w2 ⟨ao2, k2, cap2, rfl, M2⟩
      have F2 := hid (FK.out.call M2.out.2)
      clear p0 p1
      have p0 : w2.cell? ⟨BT, 0, none⟩ = some (.int .i64 next) := by rw [cell_of_row _ _ _ _ _ _ F2.out.bt]; rfl
      have p1 : w2.cell? ⟨BT, 1, none⟩ = some (.slice aq m ct) := by rw [cell_of_row _ _ _ _ _ _ F2.out.bt]; rfl
      have q0 : w2.frozen? ⟨BT, 0, none⟩ = false := frozen_of_row _ _ _ _ _ F2.out.bt
      have q1 : w2.frozen? ⟨BT, 1, none⟩ = false := frozen_of_row _ _ _ _ _ F2.out.bt
      have y0 := block_lt_of_cell p0
      go_wp2
      go_roundw
      case rel => exact ⟨k + 1, ao2, k2, cap2, by omega, by go_num, by rw [HX.out]; exact F2.out.takeA (r := ⟨nx, L⟩) M2.out.1 hBw⟩
      case measure => simp [intOf]; omega
    · obtain rfl : k = 64 := by omega
      have t1 : decide (((64 : Nat) : Int) < 64) = false := by decide
      obtain ⟨kk, hk1, hk2, hkk⟩ := u64_mod (o := n) (d := 64) (by decide) (by decide)
      have hkf : ((⟨kk.toNat, by omega⟩ : Fin 64).val : Int) = kk := by simp only; omega
      generalize (⟨kk.toNat, by omega⟩ : Fin 64) = kf at hkf
      obtain ⟨ha, hb, hc⟩ := full_again kf
      rw [hkf] at ha hb hc
      have hls := full_len ⟨64, by decide⟩
      simp only at hls
      have hzz := full_last
      obtain ⟨⟨next, ls⟩, ht⟩ : ∃ q, full 64 = q := ⟨_, rfl⟩
      rw [ht] at ha hb hc hls FK p0 hzz
      obtain ⟨q, hq⟩ : ∃ q, acq cds ⟨next, ls⟩ (7 * kk) 2 9 5 = q := ⟨_, rfl⟩
      rw [hq] at ha hb hc
      obtain ⟨L, hL⟩ : ∃ L, L = q.1.ls := ⟨_, rfl⟩
      rw [← hL] at ha hb hc
      rw [ha] at hq
      obtain ⟨⟨nx, X⟩, hx⟩ : ∃ q, expd ⟨66, L⟩ 9 = q := ⟨_, rfl⟩
      rw [hx] at hc
      have hX : X.length ≤ 1000000 := by have h := expd_len ⟨66, L⟩ 9; rw [hx] at h; exact Nat.le_trans h (by decide)
      obtain ⟨⟨⟨ny, Y⟩, ty, ey⟩, hy⟩ : ∃ q, acq cds ⟨nx, X⟩ (-1) 1 9 5 = q := ⟨_, rfl⟩
      rw [hy] at hc
      simp only at hc p0
      subst hc
      have hL2 : L.length ≤ 1000000 := by omega
      have HQ := hid hq
      have HX := hid hx
      have HY := hid hy
      have HZ := hid hzz
      have HB64 := hid hb
      have HKK := hid hkk
      clear ha hL hb hq hx hy hzz ht hkf hkk
      have HBT := hid (show wr.heap[BT]? = some (.cells #[.int .i64 next, .slice aq m ct] 24 (0, 0)) from FK.out.bt)
      have HRt := hid (show Rd wr (.slice aq m ct) ls from FK.out.rd)
      have HG := hid FK.out.g
      go_wp2_with fail
      rw [HKK.out]
      refine (acqP_call (t := ⟨next, ls⟩) HZ.out HRt.out (World.grownBy.refl _ _) hls).mono ?_
      rintro e w1 ⟨ao3, k3, cap3, rfl, M3⟩
      have G1 := hid (show wr.grownBy w1 none from M3.out.2)
      clear p0 p1
      replace HBT := hid (row_of G1.out HBT.out (by simp))
      replace HRt := hid (Sl.kn HRt.out G1.out)
      replace HG := hid (grown_trans HG.out G1.out)
      have pT_0 : w1.cell? ⟨BT, 0, none⟩ = some (.int .i64 next) := by rw [cell_of_row _ _ _ _ _ _ HBT.out]; rfl
      have pT_1 : w1.cell? ⟨BT, 1, none⟩ = some (.slice aq m ct) := by rw [cell_of_row _ _ _ _ _ _ HBT.out]; rfl
      have yT := block_lt_of_cell pT_0
      obtain ⟨B3, hB3⟩ : ∃ x, x = w1.heap.size := ⟨_, rfl⟩
      obtain ⟨W2, hW⟩ : ∃ x, x = (w1.alloc (.cells #[.int .i64 Tb.zero.next, .slice ao3 k3 cap3] 24)) := ⟨_, rfl⟩
      have A2 := hid (show w1.grownBy W2 none from by rw [hW]; (repeat (first | exact World.grownBy.refl _ _ | refine grown_trans ?_ (World.grownBy_alloc _ _ _))))
      have HB3 := hid (show W2.heap[B3]? = some (.cells #[.int .i64 Tb.zero.next, .slice ao3 k3 cap3] 24 (0, 0)) from by rw [hW, hB3]; rw [heap_at (by simp <;> omega)])
      have HW2 := hid (And.intro hW (And.intro hB3 True.intro))
      clear hW hB3
      go_wp2_with fail
      try rw [← HW2.out.1]
      try rw [← HW2.out.2.1]
      clear pT_0 pT_1 yT
      replace HBT := hid (row_of A2.out HBT.out (by simp))
      replace HRt := hid (Sl.kn HRt.out A2.out)
      replace HG := hid (grown_trans HG.out A2.out)
      refine (acqP_call (t := ⟨next, ls⟩) (n := 7 * kk) HQ.out HRt.out (World.grownBy.refl _ _) hls).mono ?_
      rintro e w3 ⟨ao4, k4, cap4, rfl, M4⟩
      have G3 := hid (show W2.grownBy w3 none from M4.out.2)
      replace HBT := hid (row_of G3.out HBT.out (by simp))
      replace HB3 := hid (row_of G3.out HB3.out (by simp))
      replace HRt := hid (Sl.kn HRt.out G3.out)
      replace HG := hid (grown_trans HG.out G3.out)
      have HRl := hid M4.out.1
      obtain ⟨B4, hB4⟩ : ∃ x, x = w3.heap.size := ⟨_, rfl⟩
      obtain ⟨W4, hW⟩ : ∃ x, x = (w3.alloc (.cells #[.int .i64 66, .slice ao4 k4 cap4] 24)) := ⟨_, rfl⟩
      have A4 := hid (show w3.grownBy W4 none from by rw [hW]; (repeat (first | exact World.grownBy.refl _ _ | refine grown_trans ?_ (World.grownBy_alloc _ _ _))))
      have HB4 := hid (show W4.heap[B4]? = some (.cells #[.int .i64 66, .slice ao4 k4 cap4] 24 (0, 0)) from by rw [hW, hB4]; rw [heap_at (by simp <;> omega)])
      have HW4 := hid (And.intro hW (And.intro hB4 True.intro))
      clear hW hB4
      go_wp2_with fail
      try rw [← HW4.out.1]
      try rw [← HW4.out.2.1]
      replace HBT := hid (row_of A4.out HBT.out (by simp))
      replace HB3 := hid (row_of A4.out HB3.out (by simp))
      replace HRt := hid (Sl.kn HRt.out A4.out)
      replace HRl := hid (Sl.kn HRl.out A4.out)
      replace HG := hid (grown_trans HG.out A4.out)
      refine (expP_call (t := ⟨66, L⟩) HX.out HRl.out (World.grownBy.refl _ _) hL2).mono ?_
      rintro e w5 ⟨ao5, k5, cap5, rfl, M5⟩
      have G5 := hid (show W4.grownBy w5 none from M5.out.2)
      replace HBT := hid (row_of G5.out HBT.out (by simp))
      replace HB3 := hid (row_of G5.out HB3.out (by simp))
      replace HB4 := hid (row_of G5.out HB4.out (by simp))
      replace HRt := hid (Sl.kn HRt.out G5.out)
      replace HRl := hid (Sl.kn HRl.out G5.out)
      replace HG := hid (grown_trans HG.out G5.out)
      have HRx := hid M5.out.1
      go_wp2_with fail
      have hk64 := Sl.len_eq HRl.out
      rw [HB64.out] at hk64
      subst hk64
      refine (acqP_call (t := ⟨nx, X⟩) HY.out HRx.out (World.grownBy.refl _ _) hX).mono ?_
      rintro e w6 ⟨ao6, k6, cap6, rfl, M6⟩
      have G6 := hid (show w5.grownBy w6 none from M6.out.2)
      replace HBT := hid (row_of G6.out HBT.out (by simp))
      replace HB3 := hid (row_of G6.out HB3.out (by simp))
      replace HB4 := hid (row_of G6.out HB4.out (by simp))
      replace HRt := hid (Sl.kn HRt.out G6.out)
      replace HRl := hid (Sl.kn HRl.out G6.out)
      replace HRx := hid (Sl.kn HRx.out G6.out)
      replace HG := hid (grown_trans HG.out G6.out)
      have p4_0 : w6.cell? ⟨B4, 0, none⟩ = some (.int .i64 66) := by rw [cell_of_row _ _ _ _ _ _ HB4.out]; rfl
      have p4_1 : w6.cell? ⟨B4, 1, none⟩ = some (.slice ao4 64 cap4) := by rw [cell_of_row _ _ _ _ _ _ HB4.out]; rfl
      have y4 := block_lt_of_cell p4_0
      obtain ⟨B6, hB6⟩ : ∃ x, x = w6.heap.size := ⟨_, rfl⟩
      obtain ⟨W7, hW⟩ : ∃ x, x = (w6.alloc (.cells #[.int .i64 ny, .slice ao6 k6 cap6] 24)) := ⟨_, rfl⟩
      have A7 := hid (show w6.grownBy W7 none from by rw [hW]; (repeat (first | exact World.grownBy.refl _ _ | refine grown_trans ?_ (World.grownBy_alloc _ _ _))))
      have HB6 := hid (show W7.heap[B6]? = some (.cells #[.int .i64 ny, .slice ao6 k6 cap6] 24 (0, 0)) from by rw [hW, hB6]; rw [heap_at (by simp <;> omega)])
      have HW7 := hid (And.intro hW (And.intro hB6 True.intro))
      clear hW hB6
      go_wp2_with fail
      try rw [← HW7.out.1]
      try rw [← HW7.out.2.1]
      clear p4_0 p4_1 y4
      replace HBT := hid (row_of A7.out HBT.out (by simp))
      replace HB3 := hid (row_of A7.out HB3.out (by simp))
      replace HB4 := hid (row_of A7.out HB4.out (by simp))
      replace HRt := hid (Sl.kn HRt.out A7.out)
      replace HRl := hid (Sl.kn HRl.out A7.out)
      replace HRx := hid (Sl.kn HRx.out A7.out)
      replace HG := hid (grown_trans HG.out A7.out)
      refine (awk_call (World.grownBy.refl _ _)).mono ?_
      rintro e w8 ⟨rfl, M7⟩
      have G8 := hid (show W7.grownBy w8 none from M7.out)
      replace HBT := hid (row_of G8.out HBT.out (by simp))
      replace HB3 := hid (row_of G8.out HB3.out (by simp))
      replace HB4 := hid (row_of G8.out HB4.out (by simp))
      replace HB6 := hid (row_of G8.out HB6.out (by simp))
      replace HRt := hid (Sl.kn HRt.out G8.out)
      replace HRl := hid (Sl.kn HRl.out G8.out)
      replace HRx := hid (Sl.kn HRx.out G8.out)
      replace HG := hid (grown_trans HG.out G8.out)
      go_wp2
      go_ret
      exact ⟨rfl, HG.out⟩
end Go.Proofs.Ytafippjpaakonaa
