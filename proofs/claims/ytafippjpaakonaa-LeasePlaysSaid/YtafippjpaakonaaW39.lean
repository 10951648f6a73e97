/- Leases: the law LeasePlays. (printed by gen_w39.py) -/
import Derived.Test.YtafippjpaakonaaW38
namespace Go.Proofs.Ytafippjpaakonaa
open Go.RowKit
set_option linter.unusedSimpArgs false
set_option linter.unusedVariables false

theorem enterStep : ∀ (av : Array Value) (w : World), ((Deferred.ofValue (.func (.func 21) #[] #[]) av).run Try.prog w).andThen (fun a w' => (invoke a.target a.args).run Try.prog w') = .ok (.enter 21 av) w := enter_of Try.func21 (by kernel_rfl) rfl
theorem enterFndP : ∀ (av : Array Value) (w : World), ((Deferred.ofValue (.func (.func 15) #[] #[]) av).run Try.prog w).andThen (fun a w' => (invoke a.target a.args).run Try.prog w') = .ok (.enter 15 av) w := enter_of Try.func15 (by kernel_rfl) rfl
theorem enterFndR : ∀ (av : Array Value) (w : World), ((Deferred.ofValue (.func (.func 22) #[] #[]) av).run Try.prog w).andThen (fun a w' => (invoke a.target a.args).run Try.prog w') = .ok (.enter 22 av) w := enter_of Try.func22 (by kernel_rfl) rfl
set_option maxRecDepth 100000 in
set_option maxHeartbeats 16000000 in
theorem plays_walk (l : List Ac) (s : Value) (w : World) (hA : RdA w s l) : Calls Try.prog 7 #[s] w fun e w' => e = .returned (.bool true) ∧ w.grownBy w' none := by
  obtain ⟨ao, cap, rfl, hc1, hc2⟩ := Sl.shape hA
  have HA := hid hA
  clear hA
  go_enter Try.func7, Try.ntmps7
  go_wp2_with fail
  refine (new_call (World.grownBy.refl w none)).mono ?_
  rintro e w1 ⟨rfl, M1⟩
  go_wp2_with fail
  refine (rnew_call (World.grownBy.refl w1 none)).mono ?_
  rintro e w2 ⟨rfl, M2⟩
  obtain ⟨B3, hB3⟩ : ∃ B, B = w2.heap.size := ⟨_, rfl⟩
  obtain ⟨B4, hB4⟩ : ∃ B, B = w2.heap.size + 1 := ⟨_, rfl⟩
  have h3w : w.heap.size ≤ B3 := by rw [hB3]; exact (grown_trans M1.out M2.out).size
  have h4w : w.heap.size ≤ B4 := by omega
  have hne : B3 ≠ B4 := by omega
  obtain ⟨W, hW⟩ : ∃ W, W = (w2.alloc (.cells #[.int .i64 1, .slice none 0 0] 24)).alloc (.cells #[.int .i64 1, .slice none 0 0] 24) := ⟨_, rfl⟩
  have F0 := hid (show PY w W B3 B4 ⟨1, []⟩ (.slice none 0 0) (.slice none 0 0) from by
    rw [hW, hB3, hB4]
    exact ⟨grown_trans (grown_trans M1.out M2.out) (grown_trans (World.grownBy_alloc _ _ _) (World.grownBy_alloc _ _ _)), by rw [heap_past (by simp), heap_at rfl], by rw [heap_at (by simp)], Sl.nil _ _, Sl.nil _ _⟩)
  have HWW := hid (show _ ∧ _ ∧ _ from ⟨hW, hB3, hB4⟩)
  clear hW hB3 hB4
  go_wp2_with fail
  rw [← HWW.out.1, ← HWW.out.2.2, ← HWW.out.2.1]
  refine (sam_call (t := ⟨1, []⟩) (w0 := W) F0.out.r3 F0.out.r4 (World.grownBy.refl _ _) (by decide)).mono ?_
  rintro e w3 ⟨rfl, g3⟩
  have F1 := hid (F0.out.call g3)
  clear g3
  go_wp2
  go_loopw [5] (fun i wr => ∃ (k : Nat) (t : Tb) (a3 : Option Addr) (m3 c3 : Nat) (a4 : Option Addr) (m4 c4 : Nat), k ≤ l.length ∧ k ≤ 40 ∧ i = .int .i64 k ∧ Hid (t.ok = true) ∧ PY w wr B3 B4 t (.slice a3 m3 c3) (.slice a4 m4 c4)) (fun i _ => l.length - (intOf i).toNat)
  case atStart => exact ⟨0, ⟨1, []⟩, none, 0, 0, none, 0, 0, by omega, by omega, rfl, hid ok_one, F1.out⟩
  case round =>
    obtain ⟨k, t, a3, m3, c3, a4, m4, c4, hk, hk40, rfl, HT, hf⟩ := hrel
    have FK := hid hf
    clear hf
    have i1 : (0 : Int) ≤ (k : Int) := by omega
    by_cases hlt : k < l.length
    · have t1 : decide ((k : Int) < (l.length : Int)) = true := by simpa using hlt
      by_cases h40 : k < 40
      · have t2 : decide ((k : Int) < 40) = true := by simp; omega
        obtain ⟨b, off, rfl, hl0, hd⟩ := RdA.six (Sl.kn HA.out FK.out.g) k hlt
        clear hl0
        have i2 : (k : Int) < (l.length : Int) := by omega
        generalize l.getD k Ac.zero = a at *
        obtain ⟨kd, n, ho, tk, now, d⟩ := a
        obtain ⟨next, ls⟩ := t
        have hls : ls.length ≤ 1000000 := Nat.le_trans (ok_len HT.out).1 (by decide)
        obtain ⟨⟨nx, L⟩, hq⟩ : ∃ q, stp ⟨next, ls⟩ ⟨kd, n, ho, tk, now, d⟩ = q := ⟨_, rfl⟩
        have hok2 := stp_ok HT.out ⟨kd, n, ho, tk, now, d⟩
        rw [hq] at hok2
        have hL : L.length ≤ 1000000 := Nat.le_trans (ok_len hok2).1 (by decide)
        obtain ⟨⟨⟨xn, xh, xt, xl⟩, xb⟩, hf⟩ : ∃ q, fnd ⟨nx, L⟩ n now = q := ⟨_, rfl⟩
        have HQ := hid hq
        have HF := hid hf
        have HOK := hid hok2
        clear hq hf hok2
        have d0 : wr.cell? ⟨b, off + k * 6, none⟩ = some (.int .i64 kd) := by simpa using hd 0 _ rfl
        have d1 : wr.cell? ⟨b, off + k * 6 + 1, none⟩ = some (.int .i64 n) := hd 1 _ rfl
        have d2 : wr.cell? ⟨b, off + k * 6 + 2, none⟩ = some (.int .i64 ho) := hd 2 _ rfl
        have d3 : wr.cell? ⟨b, off + k * 6 + 3, none⟩ = some (.int .i64 tk) := hd 3 _ rfl
        have d4 : wr.cell? ⟨b, off + k * 6 + 4, none⟩ = some (.int .i64 now) := hd 4 _ rfl
        have d5 : wr.cell? ⟨b, off + k * 6 + 5, none⟩ = some (.int .i64 d) := hd 5 _ rfl
        clear hd
        have e0 : wr.cell? ⟨B3, 0, none⟩ = some (.int .i64 next) := by rw [cell_of_row _ _ _ _ _ _ FK.out.b3]; rfl
        have e1 : wr.cell? ⟨B3, 1, none⟩ = some (.slice a3 m3 c3) := by rw [cell_of_row _ _ _ _ _ _ FK.out.b3]; rfl
        have e2 : wr.cell? ⟨B4, 0, none⟩ = some (.int .i64 next) := by rw [cell_of_row _ _ _ _ _ _ FK.out.b4]; rfl
        have e3 : wr.cell? ⟨B4, 1, none⟩ = some (.slice a4 m4 c4) := by rw [cell_of_row _ _ _ _ _ _ FK.out.b4]; rfl
        have y0 : b < wr.heap.size := block_lt_of_cell d0
        have y1 : B3 < wr.heap.size := block_lt_of_cell e0
        have y2 : B4 < wr.heap.size := block_lt_of_cell e2
        go_wp2
        refine wp_puts [30, 31, 32, 33, 34, 35, 36, 29, 37, 38, 39, 6, 7, 8] (fun vs w' => ∃ (B6 B7 : Nat) (a6 : Option Addr) (m6 c6 : Nat) (a7 : Option Addr) (m7 c7 : Nat), vs = [.agg #[.int .i64 next, .slice a3 m3 c3], .agg #[.int .i64 next, .slice a4 m4 c4], .slice (some ⟨b, off, none⟩) l.length cap, .int .i64 k, .pointer (some ⟨b, off + k * 6, none⟩), .agg #[.int .i64 kd, .int .i64 n, .int .i64 ho, .int .i64 tk, .int .i64 now, .int .i64 d], .tuple #[.agg #[.int .i64 nx, .slice a6 m6 c6], .agg #[.int .i64 nx, .slice a7 m7 c7], .bool true], .tuple #[.agg #[.int .i64 nx, .slice a6 m6 c6], .agg #[.int .i64 nx, .slice a7 m7 c7], .bool true], .agg #[.int .i64 nx, .slice a6 m6 c6], .agg #[.int .i64 nx, .slice a7 m7 c7], .bool true, .pointer (some ⟨B6, 0, none⟩), .pointer (some ⟨B7, 0, none⟩), .bool true] ∧ Hid (P7 wr w' B6 B7 ⟨nx, L⟩ (.slice a6 m6 c6) (.slice a7 m7 c7))) ?_ ?_
        · go_region_held3 (fun w' => w'.cell? ⟨b, off + k * 6, none⟩ = some (.int .i64 kd) ∧ w'.cell? ⟨b, off + k * 6 + 1, none⟩ = some (.int .i64 n) ∧ w'.cell? ⟨b, off + k * 6 + 2, none⟩ = some (.int .i64 ho) ∧ w'.cell? ⟨b, off + k * 6 + 3, none⟩ = some (.int .i64 tk) ∧ w'.cell? ⟨b, off + k * 6 + 4, none⟩ = some (.int .i64 now) ∧ w'.cell? ⟨b, off + k * 6 + 5, none⟩ = some (.int .i64 d) ∧ w'.cell? ⟨B3, 0, none⟩ = some (.int .i64 next) ∧ w'.cell? ⟨B3, 1, none⟩ = some (.slice a3 m3 c3) ∧ w'.cell? ⟨B4, 0, none⟩ = some (.int .i64 next) ∧ w'.cell? ⟨B4, 1, none⟩ = some (.slice a4 m4 c4)) (first | go_keep | exact ⟨d0, d1, d2, d3, d4, d5, e0, e1, e2, e3⟩ | fail)
            (first
            | (refine step_callS rfl 21 #[.tmp 30, .tmp 31, .tmp 35] #[24, 24, 35] rfl enterStep #[.agg #[.int .i64 next, .slice a3 m3 c3], .agg #[.int .i64 next, .slice a4 m4 c4], .agg #[.int .i64 kd, .int .i64 n, .int .i64 ho, .int .i64 tk, .int .i64 now, .int .i64 d]] (by simp [Act.eval, Act.put]) (step_callz (t := ⟨next, ls⟩) (a := ⟨kd, n, ho, tk, now, d⟩) HQ.out FK.out.r3 FK.out.r4 (grown_drew _) hls) ?_; rintro e w5 ⟨a6, m6, c6, a7, m7, c7, rfl, M5⟩; refine ⟨_, rfl, ?_⟩; have G5 := hid M5.out.2.2.1; have d0 := grown_cell G5.out d0 (by simp); have d1 := grown_cell G5.out d1 (by simp); have d2 := grown_cell G5.out d2 (by simp); have d3 := grown_cell G5.out d3 (by simp); have d4 := grown_cell G5.out d4 (by simp); have d5 := grown_cell G5.out d5 (by simp); have e0 := grown_cell G5.out e0 (by simp); have e1 := grown_cell G5.out e1 (by simp); have e2 := grown_cell G5.out e2 (by simp); have e3 := grown_cell G5.out e3 (by simp); have ys := G5.out.size; have x0 : b < w5.heap.size := block_lt_of_cell d0; have x1 : B3 < w5.heap.size := block_lt_of_cell e0; have x2 : B4 < w5.heap.size := block_lt_of_cell e2; have nq0 : ¬ w5.heap.size = b := (by omega); have kq0 : ¬ b = w5.heap.size := (by omega); have nq1 : ¬ w5.heap.size = B3 := (by omega); have kq1 : ¬ B3 = w5.heap.size := (by omega); have nq2 : ¬ w5.heap.size = B4 := (by omega); have kq2 : ¬ B4 = w5.heap.size := (by omega); have nq3 : ¬ w5.heap.size + 1 = b := (by omega); have kq3 : ¬ b = w5.heap.size + 1 := (by omega); have nq4 : ¬ w5.heap.size + 1 = B3 := (by omega); have kq4 : ¬ B3 = w5.heap.size + 1 := (by omega); have nq5 : ¬ w5.heap.size + 1 = B4 := (by omega); have kq5 : ¬ B4 = w5.heap.size + 1 := (by omega))
            | (refine step_callS rfl 21 #[.tmp 30, .tmp 31, .tmp 35] #[24, 24, 35] rfl enterStep #[.agg #[.int .i64 next, .slice a3 m3 c3], .agg #[.int .i64 next, .slice a4 m4 c4], .agg #[.int .i64 kd, .int .i64 n, .int .i64 ho, .int .i64 tk, .int .i64 now, .int .i64 d]] (by simp [Act.eval, Act.put]) (step_callz (t := ⟨next, ls⟩) (a := ⟨kd, n, ho, tk, now, d⟩) HQ.out FK.out.r3 FK.out.r4 (grown_trans (World.grownBy_alloc _ _ _) (grown_drew _)) hls) ?_; rintro e w5 ⟨a6, m6, c6, a7, m7, c7, rfl, M5⟩; refine ⟨_, rfl, ?_⟩; have G5 := hid M5.out.2.2.1; have d0 := grown_cell G5.out d0 (by simp); have d1 := grown_cell G5.out d1 (by simp); have d2 := grown_cell G5.out d2 (by simp); have d3 := grown_cell G5.out d3 (by simp); have d4 := grown_cell G5.out d4 (by simp); have d5 := grown_cell G5.out d5 (by simp); have e0 := grown_cell G5.out e0 (by simp); have e1 := grown_cell G5.out e1 (by simp); have e2 := grown_cell G5.out e2 (by simp); have e3 := grown_cell G5.out e3 (by simp); have Za := hid (show w5.heap[wr.heap.size]? = some (.cells #[.int .i64 0, .slice none 0 0] 24 (0, 0)) from row_of (grown_trans (grown_drew (wr.alloc (.cells #[.int .i64 0, .slice none 0 0] 24))) M5.out.2.2.2) (heap_at rfl) (by simp)); have za0 : w5.cell? ⟨wr.heap.size, 0, none⟩ = some (.int .i64 0) := (by rw [cell_of_row _ _ _ _ _ _ Za.out]; rfl); have fa0 : w5.frozen? ⟨wr.heap.size, 0, none⟩ = false := frozen_of_row _ _ _ _ _ Za.out; have za1 : w5.cell? ⟨wr.heap.size, 1, none⟩ = some (.slice none 0 0) := (by rw [cell_of_row _ _ _ _ _ _ Za.out]; rfl); have fa1 : w5.frozen? ⟨wr.heap.size, 1, none⟩ = false := frozen_of_row _ _ _ _ _ Za.out; have ys := G5.out.size; have x0 : b < w5.heap.size := block_lt_of_cell d0; have x1 : B3 < w5.heap.size := block_lt_of_cell e0; have x2 : B4 < w5.heap.size := block_lt_of_cell e2; have nq0 : ¬ w5.heap.size = b := (by omega); have kq0 : ¬ b = w5.heap.size := (by omega); have nq1 : ¬ w5.heap.size = B3 := (by omega); have kq1 : ¬ B3 = w5.heap.size := (by omega); have nq2 : ¬ w5.heap.size = B4 := (by omega); have kq2 : ¬ B4 = w5.heap.size := (by omega); have nq3 : ¬ w5.heap.size + 1 = b := (by omega); have kq3 : ¬ b = w5.heap.size + 1 := (by omega); have nq4 : ¬ w5.heap.size + 1 = B3 := (by omega); have kq4 : ¬ B3 = w5.heap.size + 1 := (by omega); have nq5 : ¬ w5.heap.size + 1 = B4 := (by omega); have kq5 : ¬ B4 = w5.heap.size + 1 := (by omega); have nq6 : ¬ wr.heap.size = b := (by omega); have kq6 : ¬ b = wr.heap.size := (by omega); have nq7 : ¬ wr.heap.size = B3 := (by omega); have kq7 : ¬ B3 = wr.heap.size := (by omega); have nq8 : ¬ wr.heap.size = B4 := (by omega); have kq8 : ¬ B4 = wr.heap.size := (by omega); have lt9 : wr.heap.size < w5.heap.size := block_lt_of_cell za0; have nq9 : ¬ wr.heap.size = w5.heap.size := (by omega); have kq9 : ¬ w5.heap.size = wr.heap.size := (by omega); have nq10 : ¬ wr.heap.size = w5.heap.size + 1 := (by omega); have kq10 : ¬ w5.heap.size + 1 = wr.heap.size := (by omega))
            | (refine step_callS rfl 21 #[.tmp 30, .tmp 31, .tmp 35] #[24, 24, 35] rfl enterStep #[.agg #[.int .i64 next, .slice a3 m3 c3], .agg #[.int .i64 next, .slice a4 m4 c4], .agg #[.int .i64 kd, .int .i64 n, .int .i64 ho, .int .i64 tk, .int .i64 now, .int .i64 d]] (by simp [Act.eval, Act.put]) (step_callz (t := ⟨next, ls⟩) (a := ⟨kd, n, ho, tk, now, d⟩) HQ.out FK.out.r3 FK.out.r4 (grown_trans (grown_trans (World.grownBy_alloc _ _ _) (World.grownBy_alloc _ _ _)) (grown_drew _)) hls) ?_; rintro e w5 ⟨a6, m6, c6, a7, m7, c7, rfl, M5⟩; refine ⟨_, rfl, ?_⟩; have G5 := hid M5.out.2.2.1; have d0 := grown_cell G5.out d0 (by simp); have d1 := grown_cell G5.out d1 (by simp); have d2 := grown_cell G5.out d2 (by simp); have d3 := grown_cell G5.out d3 (by simp); have d4 := grown_cell G5.out d4 (by simp); have d5 := grown_cell G5.out d5 (by simp); have e0 := grown_cell G5.out e0 (by simp); have e1 := grown_cell G5.out e1 (by simp); have e2 := grown_cell G5.out e2 (by simp); have e3 := grown_cell G5.out e3 (by simp); have Za := hid (show w5.heap[wr.heap.size]? = some (.cells #[.int .i64 0, .slice none 0 0] 24 (0, 0)) from row_of (grown_trans (grown_drew ((wr.alloc (.cells #[.int .i64 0, .slice none 0 0] 24)).alloc (.cells #[.int .i64 0, .slice none 0 0] 24))) M5.out.2.2.2) (by rw [heap_past (by simp), heap_at rfl]) (by simp)); have Zb := hid (show w5.heap[wr.heap.size + 1]? = some (.cells #[.int .i64 0, .slice none 0 0] 24 (0, 0)) from row_of (grown_trans (grown_drew ((wr.alloc (.cells #[.int .i64 0, .slice none 0 0] 24)).alloc (.cells #[.int .i64 0, .slice none 0 0] 24))) M5.out.2.2.2) (by rw [heap_at (by simp)]) (by simp)); have za0 : w5.cell? ⟨wr.heap.size, 0, none⟩ = some (.int .i64 0) := (by rw [cell_of_row _ _ _ _ _ _ Za.out]; rfl); have fa0 : w5.frozen? ⟨wr.heap.size, 0, none⟩ = false := frozen_of_row _ _ _ _ _ Za.out; have za1 : w5.cell? ⟨wr.heap.size, 1, none⟩ = some (.slice none 0 0) := (by rw [cell_of_row _ _ _ _ _ _ Za.out]; rfl); have fa1 : w5.frozen? ⟨wr.heap.size, 1, none⟩ = false := frozen_of_row _ _ _ _ _ Za.out; have zb0 : w5.cell? ⟨(wr.heap.size + 1), 0, none⟩ = some (.int .i64 0) := (by rw [cell_of_row _ _ _ _ _ _ Zb.out]; rfl); have fb0 : w5.frozen? ⟨(wr.heap.size + 1), 0, none⟩ = false := frozen_of_row _ _ _ _ _ Zb.out; have zb1 : w5.cell? ⟨(wr.heap.size + 1), 1, none⟩ = some (.slice none 0 0) := (by rw [cell_of_row _ _ _ _ _ _ Zb.out]; rfl); have fb1 : w5.frozen? ⟨(wr.heap.size + 1), 1, none⟩ = false := frozen_of_row _ _ _ _ _ Zb.out; have ys := G5.out.size; have x0 : b < w5.heap.size := block_lt_of_cell d0; have x1 : B3 < w5.heap.size := block_lt_of_cell e0; have x2 : B4 < w5.heap.size := block_lt_of_cell e2; have nq0 : ¬ w5.heap.size = b := (by omega); have kq0 : ¬ b = w5.heap.size := (by omega); have nq1 : ¬ w5.heap.size = B3 := (by omega); have kq1 : ¬ B3 = w5.heap.size := (by omega); have nq2 : ¬ w5.heap.size = B4 := (by omega); have kq2 : ¬ B4 = w5.heap.size := (by omega); have nq3 : ¬ w5.heap.size + 1 = b := (by omega); have kq3 : ¬ b = w5.heap.size + 1 := (by omega); have nq4 : ¬ w5.heap.size + 1 = B3 := (by omega); have kq4 : ¬ B3 = w5.heap.size + 1 := (by omega); have nq5 : ¬ w5.heap.size + 1 = B4 := (by omega); have kq5 : ¬ B4 = w5.heap.size + 1 := (by omega); have nq6 : ¬ wr.heap.size = b := (by omega); have kq6 : ¬ b = wr.heap.size := (by omega); have nq7 : ¬ wr.heap.size = B3 := (by omega); have kq7 : ¬ B3 = wr.heap.size := (by omega); have nq8 : ¬ wr.heap.size = B4 := (by omega); have kq8 : ¬ B4 = wr.heap.size := (by omega); have nq9 : ¬ (wr.heap.size + 1) = b := (by omega); have kq9 : ¬ b = (wr.heap.size + 1) := (by omega); have nq10 : ¬ (wr.heap.size + 1) = B3 := (by omega); have kq10 : ¬ B3 = (wr.heap.size + 1) := (by omega); have nq11 : ¬ (wr.heap.size + 1) = B4 := (by omega); have kq11 : ¬ B4 = (wr.heap.size + 1) := (by omega); have lt12 : wr.heap.size < w5.heap.size := block_lt_of_cell za0; have nq12 : ¬ wr.heap.size = w5.heap.size := (by omega); have kq12 : ¬ w5.heap.size = wr.heap.size := (by omega); have nq13 : ¬ wr.heap.size = w5.heap.size + 1 := (by omega); have kq13 : ¬ w5.heap.size + 1 = wr.heap.size := (by omega); have lt14 : (wr.heap.size + 1) < w5.heap.size := block_lt_of_cell zb0; have nq14 : ¬ (wr.heap.size + 1) = w5.heap.size := (by omega); have kq14 : ¬ w5.heap.size = (wr.heap.size + 1) := (by omega); have nq15 : ¬ (wr.heap.size + 1) = w5.heap.size + 1 := (by omega); have kq15 : ¬ w5.heap.size + 1 = (wr.heap.size + 1) := (by omega))
            | fail)
          all_goals first
            | exact ⟨rfl, _, ⟨_, _, a6, m6, c6, a7, m7, c7, rfl, hid (P7.a (r := ⟨nx, L⟩) M5.out.2.2.1 M5.out.1 M5.out.2.1)⟩, by kernel_rfl⟩
            | exact ⟨rfl, _, ⟨_, _, a6, m6, c6, a7, m7, c7, rfl, hid (P7.a2 (r := ⟨nx, L⟩) M5.out.2.2.1 M5.out.1 M5.out.2.1)⟩, by kernel_rfl⟩
            | exact ⟨rfl, _, ⟨_, _, a6, m6, c6, a7, m7, c7, rfl, hid (P7.b (r := ⟨nx, L⟩) M5.out.2.2.1 (Nat.le_refl _) Za.out M5.out.1 M5.out.2.1)⟩, by kernel_rfl⟩
            | exact ⟨rfl, _, ⟨_, _, a6, m6, c6, a7, m7, c7, rfl, hid (P7.b2 (r := ⟨nx, L⟩) M5.out.2.2.1 (Nat.le_refl _) Za.out M5.out.1 M5.out.2.1)⟩, by kernel_rfl⟩
            | exact ⟨rfl, _, ⟨_, _, a6, m6, c6, a7, m7, c7, rfl, hid (P7.c (r := ⟨nx, L⟩) M5.out.2.2.1 (Nat.le_refl _) (Nat.le_succ _) (by omega) Za.out Zb.out M5.out.1 M5.out.2.1)⟩, by kernel_rfl⟩
            | exact ⟨rfl, _, ⟨_, _, a6, m6, c6, a7, m7, c7, rfl, hid (P7.c (r := ⟨nx, L⟩) M5.out.2.2.1 (Nat.le_succ _) (Nat.le_refl _) (by omega) Zb.out Za.out M5.out.1 M5.out.2.1)⟩, by kernel_rfl⟩
        · rintro vs w7 ⟨B6, B7, a6, m6, c6, a7, m7, c7, rfl, HP⟩
          have FK7 := hid (FK.out.call HP.out.g)
          have H6 := hid HP.out.b6
          have H7 := hid HP.out.b7
          have R6 := hid HP.out.r6
          have R7 := hid HP.out.r7
          have GG := hid HP.out.g
          have NB := hid (show (B3 < wr.heap.size ∧ B4 < wr.heap.size) ∧ wr.heap.size ≤ B6 ∧ wr.heap.size ≤ B7 from ⟨⟨y1, y2⟩, HP.out.n6, HP.out.n7⟩)
          clear e0 e1 e2 e3 y1 y2 d2 d3 d5 d0
          replace d1 := grown_cell GG.out d1 (by simp)
          replace d4 := grown_cell GG.out d4 (by simp)
          simp only [puts]
          go_wp2
          have e0 : w7.cell? ⟨B6, 0, none⟩ = some (.int .i64 nx) := by rw [cell_of_row _ _ _ _ _ _ H6.out]; rfl
          have e1 : w7.cell? ⟨B6, 1, none⟩ = some (.slice a6 m6 c6) := by rw [cell_of_row _ _ _ _ _ _ H6.out]; rfl
          have y1 : B6 < w7.heap.size := block_lt_of_cell e0
          have y0 : b < w7.heap.size := block_lt_of_cell d1
          refine wp_puts [41, 42, 43, 44, 45, 46, 47, 48, 49, 50, 51, 52, 40, 53, 54, 9, 10] (fun vs w' => ∃ (B9 : Nat), vs = [.agg #[.int .i64 nx, .slice a6 m6 c6], .slice (some ⟨b, off, none⟩) l.length cap, .int .i64 k, .pointer (some ⟨b, off + k * 6, none⟩), .pointer (some ⟨b, off + k * 6 + 1, none⟩), .int .i64 n, .slice (some ⟨b, off, none⟩) l.length cap, .int .i64 k, .pointer (some ⟨b, off + k * 6, none⟩), .pointer (some ⟨b, off + k * 6 + 4, none⟩), .int .i64 now, .tuple #[.agg #[.int .i64 xn, .int .i64 xh, .int .i64 xt, .int .i64 xl], .bool xb], .tuple #[.agg #[.int .i64 xn, .int .i64 xh, .int .i64 xt, .int .i64 xl], .bool xb], .agg #[.int .i64 xn, .int .i64 xh, .int .i64 xt, .int .i64 xl], .bool xb, .pointer (some ⟨B9, 0, none⟩), .bool xb] ∧ Hid (P8 w7 w' B9 ⟨xn, xh, xt, xl⟩)) ?_ ?_
          · go_region_held3 (fun w' => w'.cell? ⟨b, off + k * 6 + 1, none⟩ = some (.int .i64 n) ∧ w'.cell? ⟨b, off + k * 6 + 4, none⟩ = some (.int .i64 now) ∧ w'.cell? ⟨B6, 0, none⟩ = some (.int .i64 nx) ∧ w'.cell? ⟨B6, 1, none⟩ = some (.slice a6 m6 c6)) (first | go_keep | exact ⟨d1, d4, e0, e1⟩ | fail)
              (first
              | (refine step_callS rfl 15 #[.tmp 41, .tmp 46, .tmp 51] #[24, 3, 3] rfl enterFndP #[.agg #[.int .i64 nx, .slice a6 m6 c6], .int .i64 n, .int .i64 now] (by simp [Act.eval, Act.put]) (fndPz (t := ⟨nx, L⟩) HF.out R6.out (grown_drew _) hL) ?_; rintro e w5 ⟨rfl, M5⟩; refine ⟨_, rfl, ?_⟩; have G5 := hid M5.out.1; have d1 := grown_cell G5.out d1 (by simp); have d4 := grown_cell G5.out d4 (by simp); have e0 := grown_cell G5.out e0 (by simp); have e1 := grown_cell G5.out e1 (by simp); have ys := G5.out.size; have x0 : b < w5.heap.size := block_lt_of_cell d1; have x1 : B6 < w5.heap.size := block_lt_of_cell e0; have nq0 : ¬ w5.heap.size = b := (by omega); have kq0 : ¬ b = w5.heap.size := (by omega); have nq1 : ¬ w5.heap.size = B6 := (by omega); have kq1 : ¬ B6 = w5.heap.size := (by omega); have nq2 : ¬ w5.heap.size + 1 = b := (by omega); have kq2 : ¬ b = w5.heap.size + 1 := (by omega); have nq3 : ¬ w5.heap.size + 1 = B6 := (by omega); have kq3 : ¬ B6 = w5.heap.size + 1 := (by omega))
              | (refine step_callS rfl 15 #[.tmp 41, .tmp 46, .tmp 51] #[24, 3, 3] rfl enterFndP #[.agg #[.int .i64 nx, .slice a6 m6 c6], .int .i64 n, .int .i64 now] (by simp [Act.eval, Act.put]) (fndPz (t := ⟨nx, L⟩) HF.out R6.out (grown_trans (World.grownBy_alloc _ _ _) (grown_drew _)) hL) ?_; rintro e w5 ⟨rfl, M5⟩; refine ⟨_, rfl, ?_⟩; have G5 := hid M5.out.1; have d1 := grown_cell G5.out d1 (by simp); have d4 := grown_cell G5.out d4 (by simp); have e0 := grown_cell G5.out e0 (by simp); have e1 := grown_cell G5.out e1 (by simp); have Za := hid (show w5.heap[w7.heap.size]? = some (.cells #[.int .i64 0, .int .i64 0, .int .i64 0, .int .i64 0] 38 (0, 0)) from row_of (grown_trans (grown_drew (w7.alloc (.cells #[.int .i64 0, .int .i64 0, .int .i64 0, .int .i64 0] 38))) M5.out.2) (heap_at rfl) (by simp)); have za0 : w5.cell? ⟨w7.heap.size, 0, none⟩ = some (.int .i64 0) := (by rw [cell_of_row _ _ _ _ _ _ Za.out]; rfl); have fa0 : w5.frozen? ⟨w7.heap.size, 0, none⟩ = false := frozen_of_row _ _ _ _ _ Za.out; have za1 : w5.cell? ⟨w7.heap.size, 1, none⟩ = some (.int .i64 0) := (by rw [cell_of_row _ _ _ _ _ _ Za.out]; rfl); have fa1 : w5.frozen? ⟨w7.heap.size, 1, none⟩ = false := frozen_of_row _ _ _ _ _ Za.out; have za2 : w5.cell? ⟨w7.heap.size, 2, none⟩ = some (.int .i64 0) := (by rw [cell_of_row _ _ _ _ _ _ Za.out]; rfl); have fa2 : w5.frozen? ⟨w7.heap.size, 2, none⟩ = false := frozen_of_row _ _ _ _ _ Za.out; have za3 : w5.cell? ⟨w7.heap.size, 3, none⟩ = some (.int .i64 0) := (by rw [cell_of_row _ _ _ _ _ _ Za.out]; rfl); have fa3 : w5.frozen? ⟨w7.heap.size, 3, none⟩ = false := frozen_of_row _ _ _ _ _ Za.out; have ys := G5.out.size; have x0 : b < w5.heap.size := block_lt_of_cell d1; have x1 : B6 < w5.heap.size := block_lt_of_cell e0; have nq0 : ¬ w5.heap.size = b := (by omega); have kq0 : ¬ b = w5.heap.size := (by omega); have nq1 : ¬ w5.heap.size = B6 := (by omega); have kq1 : ¬ B6 = w5.heap.size := (by omega); have nq2 : ¬ w5.heap.size + 1 = b := (by omega); have kq2 : ¬ b = w5.heap.size + 1 := (by omega); have nq3 : ¬ w5.heap.size + 1 = B6 := (by omega); have kq3 : ¬ B6 = w5.heap.size + 1 := (by omega); have nq4 : ¬ w7.heap.size = b := (by omega); have kq4 : ¬ b = w7.heap.size := (by omega); have nq5 : ¬ w7.heap.size = B6 := (by omega); have kq5 : ¬ B6 = w7.heap.size := (by omega); have lt6 : w7.heap.size < w5.heap.size := block_lt_of_cell za0; have nq6 : ¬ w7.heap.size = w5.heap.size := (by omega); have kq6 : ¬ w5.heap.size = w7.heap.size := (by omega); have nq7 : ¬ w7.heap.size = w5.heap.size + 1 := (by omega); have kq7 : ¬ w5.heap.size + 1 = w7.heap.size := (by omega))
              | fail)
            all_goals first
              | exact ⟨rfl, _, ⟨_, rfl, hid (P8.a (x := ⟨xn, xh, xt, xl⟩) M5.out.1)⟩, by kernel_rfl⟩
              | exact ⟨rfl, _, ⟨_, rfl, hid (P8.b' (x := ⟨xn, xh, xt, xl⟩) M5.out.1 (Nat.le_refl _) Za.out)⟩, by kernel_rfl⟩
          · rintro vs w8 ⟨B9, rfl, HP⟩
            replace d1 := grown_cell HP.out.g d1 (by simp)
            replace d4 := grown_cell HP.out.g d4 (by simp)
            replace H6 := hid (row_of HP.out.g H6.out (by simp))
            replace H7 := hid (row_of HP.out.g H7.out (by simp))
            replace R6 := hid (Sl.kn R6.out HP.out.g)
            replace R7 := hid (Sl.kn R7.out HP.out.g)
            replace FK7 := hid (FK7.out.call HP.out.g)
            have H9 := hid HP.out.b
            clear HP e0 e1 y0 y1
            simp only [puts]
            go_wp2
            have e0 : w8.cell? ⟨B7, 0, none⟩ = some (.int .i64 nx) := by rw [cell_of_row _ _ _ _ _ _ H7.out]; rfl
            have e1 : w8.cell? ⟨B7, 1, none⟩ = some (.slice a7 m7 c7) := by rw [cell_of_row _ _ _ _ _ _ H7.out]; rfl
            have y1 : B7 < w8.heap.size := block_lt_of_cell e0
            have y0 : b < w8.heap.size := block_lt_of_cell d1
            refine wp_puts [56, 57, 58, 59, 60, 61, 62, 63, 64, 65, 66, 67, 55, 68, 69, 11, 12] (fun vs w' => ∃ (B11 : Nat), vs = [.agg #[.int .i64 nx, .slice a7 m7 c7], .slice (some ⟨b, off, none⟩) l.length cap, .int .i64 k, .pointer (some ⟨b, off + k * 6, none⟩), .pointer (some ⟨b, off + k * 6 + 1, none⟩), .int .i64 n, .slice (some ⟨b, off, none⟩) l.length cap, .int .i64 k, .pointer (some ⟨b, off + k * 6, none⟩), .pointer (some ⟨b, off + k * 6 + 4, none⟩), .int .i64 now, .tuple #[.agg #[.int .i64 xn, .int .i64 xh, .int .i64 xt, .int .i64 xl], .bool xb], .tuple #[.agg #[.int .i64 xn, .int .i64 xh, .int .i64 xt, .int .i64 xl], .bool xb], .agg #[.int .i64 xn, .int .i64 xh, .int .i64 xt, .int .i64 xl], .bool xb, .pointer (some ⟨B11, 0, none⟩), .bool xb] ∧ Hid (P8 w8 w' B11 ⟨xn, xh, xt, xl⟩)) ?_ ?_
            · go_region_held3 (fun w' => w'.cell? ⟨b, off + k * 6 + 1, none⟩ = some (.int .i64 n) ∧ w'.cell? ⟨b, off + k * 6 + 4, none⟩ = some (.int .i64 now) ∧ w'.cell? ⟨B7, 0, none⟩ = some (.int .i64 nx) ∧ w'.cell? ⟨B7, 1, none⟩ = some (.slice a7 m7 c7)) (first | go_keep | exact ⟨d1, d4, e0, e1⟩ | fail)
                (first
                | (refine step_callS rfl 22 #[.tmp 56, .tmp 61, .tmp 66] #[24, 3, 3] rfl enterFndR #[.agg #[.int .i64 nx, .slice a7 m7 c7], .int .i64 n, .int .i64 now] (by simp [Act.eval, Act.put]) (fndRz (t := ⟨nx, L⟩) HF.out R7.out (grown_drew _) hL) ?_; rintro e w5 ⟨rfl, M5⟩; refine ⟨_, rfl, ?_⟩; have G5 := hid M5.out.1; have d1 := grown_cell G5.out d1 (by simp); have d4 := grown_cell G5.out d4 (by simp); have e0 := grown_cell G5.out e0 (by simp); have e1 := grown_cell G5.out e1 (by simp); have ys := G5.out.size; have x0 : b < w5.heap.size := block_lt_of_cell d1; have x1 : B7 < w5.heap.size := block_lt_of_cell e0; have nq0 : ¬ w5.heap.size = b := (by omega); have kq0 : ¬ b = w5.heap.size := (by omega); have nq1 : ¬ w5.heap.size = B7 := (by omega); have kq1 : ¬ B7 = w5.heap.size := (by omega); have nq2 : ¬ w5.heap.size + 1 = b := (by omega); have kq2 : ¬ b = w5.heap.size + 1 := (by omega); have nq3 : ¬ w5.heap.size + 1 = B7 := (by omega); have kq3 : ¬ B7 = w5.heap.size + 1 := (by omega))
                | (refine step_callS rfl 22 #[.tmp 56, .tmp 61, .tmp 66] #[24, 3, 3] rfl enterFndR #[.agg #[.int .i64 nx, .slice a7 m7 c7], .int .i64 n, .int .i64 now] (by simp [Act.eval, Act.put]) (fndRz (t := ⟨nx, L⟩) HF.out R7.out (grown_trans (World.grownBy_alloc _ _ _) (grown_drew _)) hL) ?_; rintro e w5 ⟨rfl, M5⟩; refine ⟨_, rfl, ?_⟩; have G5 := hid M5.out.1; have d1 := grown_cell G5.out d1 (by simp); have d4 := grown_cell G5.out d4 (by simp); have e0 := grown_cell G5.out e0 (by simp); have e1 := grown_cell G5.out e1 (by simp); have Za := hid (show w5.heap[w8.heap.size]? = some (.cells #[.int .i64 0, .int .i64 0, .int .i64 0, .int .i64 0] 38 (0, 0)) from row_of (grown_trans (grown_drew (w8.alloc (.cells #[.int .i64 0, .int .i64 0, .int .i64 0, .int .i64 0] 38))) M5.out.2) (heap_at rfl) (by simp)); have za0 : w5.cell? ⟨w8.heap.size, 0, none⟩ = some (.int .i64 0) := (by rw [cell_of_row _ _ _ _ _ _ Za.out]; rfl); have fa0 : w5.frozen? ⟨w8.heap.size, 0, none⟩ = false := frozen_of_row _ _ _ _ _ Za.out; have za1 : w5.cell? ⟨w8.heap.size, 1, none⟩ = some (.int .i64 0) := (by rw [cell_of_row _ _ _ _ _ _ Za.out]; rfl); have fa1 : w5.frozen? ⟨w8.heap.size, 1, none⟩ = false := frozen_of_row _ _ _ _ _ Za.out; have za2 : w5.cell? ⟨w8.heap.size, 2, none⟩ = some (.int .i64 0) := (by rw [cell_of_row _ _ _ _ _ _ Za.out]; rfl); have fa2 : w5.frozen? ⟨w8.heap.size, 2, none⟩ = false := frozen_of_row _ _ _ _ _ Za.out; have za3 : w5.cell? ⟨w8.heap.size, 3, none⟩ = some (.int .i64 0) := (by rw [cell_of_row _ _ _ _ _ _ Za.out]; rfl); have fa3 : w5.frozen? ⟨w8.heap.size, 3, none⟩ = false := frozen_of_row _ _ _ _ _ Za.out; have ys := G5.out.size; have x0 : b < w5.heap.size := block_lt_of_cell d1; have x1 : B7 < w5.heap.size := block_lt_of_cell e0; have nq0 : ¬ w5.heap.size = b := (by omega); have kq0 : ¬ b = w5.heap.size := (by omega); have nq1 : ¬ w5.heap.size = B7 := (by omega); have kq1 : ¬ B7 = w5.heap.size := (by omega); have nq2 : ¬ w5.heap.size + 1 = b := (by omega); have kq2 : ¬ b = w5.heap.size + 1 := (by omega); have nq3 : ¬ w5.heap.size + 1 = B7 := (by omega); have kq3 : ¬ B7 = w5.heap.size + 1 := (by omega); have nq4 : ¬ w8.heap.size = b := (by omega); have kq4 : ¬ b = w8.heap.size := (by omega); have nq5 : ¬ w8.heap.size = B7 := (by omega); have kq5 : ¬ B7 = w8.heap.size := (by omega); have lt6 : w8.heap.size < w5.heap.size := block_lt_of_cell za0; have nq6 : ¬ w8.heap.size = w5.heap.size := (by omega); have kq6 : ¬ w5.heap.size = w8.heap.size := (by omega); have nq7 : ¬ w8.heap.size = w5.heap.size + 1 := (by omega); have kq7 : ¬ w5.heap.size + 1 = w8.heap.size := (by omega))
                | fail)
              all_goals first
                | exact ⟨rfl, _, ⟨_, rfl, hid (P8.a (x := ⟨xn, xh, xt, xl⟩) M5.out.1)⟩, by kernel_rfl⟩
                | exact ⟨rfl, _, ⟨_, rfl, hid (P8.b' (x := ⟨xn, xh, xt, xl⟩) M5.out.1 (Nat.le_refl _) Za.out)⟩, by kernel_rfl⟩
            · rintro vs w9 ⟨B11, rfl, HP⟩
              replace H6 := hid (row_of HP.out.g H6.out (by simp))
              replace H7 := hid (row_of HP.out.g H7.out (by simp))
              replace H9 := hid (row_of HP.out.g H9.out (by simp))
              replace R6 := hid (Sl.kn R6.out HP.out.g)
              replace R7 := hid (Sl.kn R7.out HP.out.g)
              replace FK7 := hid (FK7.out.call HP.out.g)
              have H11 := hid HP.out.b
              clear HP e0 e1 y0 y1
              have pB6_0 : w9.cell? ⟨B6, 0, none⟩ = some (.int .i64 nx) := by rw [cell_of_row _ _ _ _ _ _ H6.out]; rfl
              have pB6_1 : w9.cell? ⟨B6, 1, none⟩ = some (.slice a6 m6 c6) := by rw [cell_of_row _ _ _ _ _ _ H6.out]; rfl
              have pB7_0 : w9.cell? ⟨B7, 0, none⟩ = some (.int .i64 nx) := by rw [cell_of_row _ _ _ _ _ _ H7.out]; rfl
              have pB7_1 : w9.cell? ⟨B7, 1, none⟩ = some (.slice a7 m7 c7) := by rw [cell_of_row _ _ _ _ _ _ H7.out]; rfl
              have pB9_0 : w9.cell? ⟨B9, 0, none⟩ = some (.int .i64 xn) := by rw [cell_of_row _ _ _ _ _ _ H9.out]; rfl
              have pB9_1 : w9.cell? ⟨B9, 1, none⟩ = some (.int .i64 xh) := by rw [cell_of_row _ _ _ _ _ _ H9.out]; rfl
              have pB9_2 : w9.cell? ⟨B9, 2, none⟩ = some (.int .i64 xt) := by rw [cell_of_row _ _ _ _ _ _ H9.out]; rfl
              have pB9_3 : w9.cell? ⟨B9, 3, none⟩ = some (.int .i64 xl) := by rw [cell_of_row _ _ _ _ _ _ H9.out]; rfl
              have pB11_0 : w9.cell? ⟨B11, 0, none⟩ = some (.int .i64 xn) := by rw [cell_of_row _ _ _ _ _ _ H11.out]; rfl
              have pB11_1 : w9.cell? ⟨B11, 1, none⟩ = some (.int .i64 xh) := by rw [cell_of_row _ _ _ _ _ _ H11.out]; rfl
              have pB11_2 : w9.cell? ⟨B11, 2, none⟩ = some (.int .i64 xt) := by rw [cell_of_row _ _ _ _ _ _ H11.out]; rfl
              have pB11_3 : w9.cell? ⟨B11, 3, none⟩ = some (.int .i64 xl) := by rw [cell_of_row _ _ _ _ _ _ H11.out]; rfl
              simp only [puts]
              go_wp2_with fail
              refine (vldP_call (t := ⟨nx, L⟩) HOK.out R6.out (World.grownBy.refl _ _) hL).mono ?_
              rintro e w10 ⟨rfl, g10⟩
              have G10 := hid g10
              clear g10
              replace H6 := hid (row_of G10.out H6.out (by simp))
              replace H7 := hid (row_of G10.out H7.out (by simp))
              replace H9 := hid (row_of G10.out H9.out (by simp))
              replace H11 := hid (row_of G10.out H11.out (by simp))
              replace R6 := hid (Sl.kn R6.out G10.out)
              replace R7 := hid (Sl.kn R7.out G10.out)
              replace FK7 := hid (FK7.out.call G10.out)
              clear pB6_0 pB6_1 pB7_0 pB7_1 pB9_0 pB9_1 pB9_2 pB9_3 pB11_0 pB11_1 pB11_2 pB11_3
              have pB6_0 : w10.cell? ⟨B6, 0, none⟩ = some (.int .i64 nx) := by rw [cell_of_row _ _ _ _ _ _ H6.out]; rfl
              have pB6_1 : w10.cell? ⟨B6, 1, none⟩ = some (.slice a6 m6 c6) := by rw [cell_of_row _ _ _ _ _ _ H6.out]; rfl
              have pB7_0 : w10.cell? ⟨B7, 0, none⟩ = some (.int .i64 nx) := by rw [cell_of_row _ _ _ _ _ _ H7.out]; rfl
              have pB7_1 : w10.cell? ⟨B7, 1, none⟩ = some (.slice a7 m7 c7) := by rw [cell_of_row _ _ _ _ _ _ H7.out]; rfl
              have pB9_0 : w10.cell? ⟨B9, 0, none⟩ = some (.int .i64 xn) := by rw [cell_of_row _ _ _ _ _ _ H9.out]; rfl
              have pB9_1 : w10.cell? ⟨B9, 1, none⟩ = some (.int .i64 xh) := by rw [cell_of_row _ _ _ _ _ _ H9.out]; rfl
              have pB9_2 : w10.cell? ⟨B9, 2, none⟩ = some (.int .i64 xt) := by rw [cell_of_row _ _ _ _ _ _ H9.out]; rfl
              have pB9_3 : w10.cell? ⟨B9, 3, none⟩ = some (.int .i64 xl) := by rw [cell_of_row _ _ _ _ _ _ H9.out]; rfl
              have pB11_0 : w10.cell? ⟨B11, 0, none⟩ = some (.int .i64 xn) := by rw [cell_of_row _ _ _ _ _ _ H11.out]; rfl
              have pB11_1 : w10.cell? ⟨B11, 1, none⟩ = some (.int .i64 xh) := by rw [cell_of_row _ _ _ _ _ _ H11.out]; rfl
              have pB11_2 : w10.cell? ⟨B11, 2, none⟩ = some (.int .i64 xt) := by rw [cell_of_row _ _ _ _ _ _ H11.out]; rfl
              have pB11_3 : w10.cell? ⟨B11, 3, none⟩ = some (.int .i64 xl) := by rw [cell_of_row _ _ _ _ _ _ H11.out]; rfl
              have pB3_0 : w10.cell? ⟨B3, 0, none⟩ = some (.int .i64 next) := by rw [cell_of_row _ _ _ _ _ _ FK7.out.b3]; rfl
              have qB3_0 : w10.frozen? ⟨B3, 0, none⟩ = false := frozen_of_row _ _ _ _ _ FK7.out.b3
              have pB3_1 : w10.cell? ⟨B3, 1, none⟩ = some (.slice a3 m3 c3) := by rw [cell_of_row _ _ _ _ _ _ FK7.out.b3]; rfl
              have qB3_1 : w10.frozen? ⟨B3, 1, none⟩ = false := frozen_of_row _ _ _ _ _ FK7.out.b3
              have pB4_0 : w10.cell? ⟨B4, 0, none⟩ = some (.int .i64 next) := by rw [cell_of_row _ _ _ _ _ _ FK7.out.b4]; rfl
              have qB4_0 : w10.frozen? ⟨B4, 0, none⟩ = false := frozen_of_row _ _ _ _ _ FK7.out.b4
              have pB4_1 : w10.cell? ⟨B4, 1, none⟩ = some (.slice a4 m4 c4) := by rw [cell_of_row _ _ _ _ _ _ FK7.out.b4]; rfl
              have qB4_1 : w10.frozen? ⟨B4, 1, none⟩ = false := frozen_of_row _ _ _ _ _ FK7.out.b4
              go_wp2
              obtain ⟨⟨y1, y2⟩, y6, y7⟩ := NB.out
              have nb0 : ¬ B6 = B3 := by omega
              have mb0 : ¬ B3 = B6 := by omega
              have nb1 : ¬ B6 = B4 := by omega
              have mb1 : ¬ B4 = B6 := by omega
              have nb2 : ¬ B7 = B3 := by omega
              have mb2 : ¬ B3 = B7 := by omega
              have nb3 : ¬ B7 = B4 := by omega
              have mb3 : ¬ B4 = B7 := by omega
              have nb9 : ¬ B3 = B4 := hne
              have mb9 : ¬ B4 = B3 := fun e => hne e.symm
              go_region
              all_goals go_wp2
              all_goals go_roundw
              all_goals first
                | exact ⟨k + 1, ⟨nx, L⟩, a6, m6, c6, a7, m7, c7, by omega, by omega, by go_num, HOK, (FK7.out.call (grown_drewN _ _)).take (r := ⟨nx, L⟩) (Sl.kn R6.out (grown_drewN _ _)) (Sl.kn R7.out (grown_drewN _ _)) h3w h4w hne⟩
                | (simp [intOf]; omega)
      · have t2 : decide ((k : Int) < 40) = false := by simp; omega
        have HG := hid FK.out.g
        go_wp2_with fail
        refine (awk_call (World.grownBy.refl _ _)).mono ?_
        rintro e w9 ⟨rfl, M9⟩
        go_wp2
        go_ret
        exact ⟨rfl, grown_trans HG.out M9.out⟩
    · have t1 : decide ((k : Int) < (l.length : Int)) = false := by simp; omega
      have HG := hid FK.out.g
      go_wp2_with fail
      refine (awk_call (World.grownBy.refl _ _)).mono ?_
      rintro e w9 ⟨rfl, M9⟩
      go_wp2
      go_ret
      exact ⟨rfl, grown_trans HG.out M9.out⟩
end Go.Proofs.Ytafippjpaakonaa
