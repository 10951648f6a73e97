/- Leases: the reference's Release. (printed by gen_w22.py) -/
import Derived.Test.YtafippjpaakonaaW20
import Derived.Test.YtafippjpaakonaaW17
namespace Go.Proofs.Ytafippjpaakonaa
open Go.RowKit
set_option linter.unusedSimpArgs false
set_option linter.unusedVariables false
set_option maxRecDepth 100000 in
set_option maxHeartbeats 4000000 in
theorem rrelease_walk (t : Tb) (n ho tk : Int) (s : Value) (w : World) (hR : Rd w s t.ls) (hn : t.ls.length ≤ 1000000) :
    Calls Try.prog 36 #[tval t.next s, .int .i64 n, .int .i64 ho, .int .i64 tk] w (TePost (rel cds t n ho tk) w) := by
  obtain ⟨next, l⟩ := t
  simp only at hR hn ⊢
  obtain ⟨ao, cap, rfl, hc1, hc2⟩ := Sl.shape hR
  have HR := hid hR
  obtain ⟨r, hr⟩ : ∃ r, r = rel cds ⟨next, l⟩ n ho tk := ⟨_, rfl⟩
  rw [← hr]
  have HRR := hid hr
  clear hR hr
  unfold tval
  obtain ⟨W, hW⟩ : ∃ W, W = ((w.alloc (.cells #[.int .i64 next, .slice ao l.length cap] 24)).alloc (.cells [.int .i64 0, .slice none 0 0].toArray 24)) := ⟨_, rfl⟩
  have F0 := hid (show RF 24 w W next (.slice ao l.length cap) [.int .i64 0, .slice none 0 0] from by rw [hW]; exact RF.start w next _ _ _)
  have HWW := hid hW
  clear hW
  go_enter Try.func36, Try.ntmps36
  go_wp2_with fail
  rw [← HWW.out]
  refine (rvalid_walk l next _ W (Sl.kn HR.out F0.out.g) (by omega)).mono ?_
  rintro e w1 ⟨rfl, g1⟩
  have F1 := hid (F0.out.call g1)
  clear g1 HWW
  have c0 : w1.cell? ⟨w.heap.size, 0, none⟩ = some (.int .i64 next) := by rw [cell_of_row _ _ _ _ _ _ F1.out.b0]; rfl
  have c1 : w1.cell? ⟨w.heap.size, 1, none⟩ = some (.slice ao l.length cap) := by rw [cell_of_row _ _ _ _ _ _ F1.out.b0]; rfl
  have a0 : w1.cell? ⟨w.heap.size + 1, 0, none⟩ = some (.int .i64 0) := by rw [cell_of_row _ _ _ _ _ _ F1.out.b1]; rfl
  have a1 : w1.cell? ⟨w.heap.size + 1, 1, none⟩ = some (.slice none 0 0) := by rw [cell_of_row _ _ _ _ _ _ F1.out.b1]; rfl
  have f0 : w1.frozen? ⟨w.heap.size + 1, 0, none⟩ = false := frozen_of_row _ _ _ _ _ F1.out.b1
  have f1 : w1.frozen? ⟨w.heap.size + 1, 1, none⟩ = false := frozen_of_row _ _ _ _ _ F1.out.b1
  cases hok : Tb.ok ⟨next, l⟩ with
  | false =>
    have HE := hid (show r = (.zero, 1) from HRR.out.trans (rel_inv hok))
    go_wp2
    rw [HE.out]
    exact fin_te (p := 8) (q := 9) (r := (.zero, 1)) (ao := none) (n := 0) (cap := 0) F1.out (Sl.nil _ _) rfl rfl rfl rfl
  | true =>
    have HOK := hid hok
    have hA := ((Tb.ok_iff _).1 hok).2.1
    have hb := ((Tb.ok_iff _).1 hok).1
    simp only at hA hb
    have HA := hid hA
    obtain ⟨hb1, hb2, hb3⟩ := hb
    unfold Top at hb2
    clear hA hok
    clear a0 a1 f0 f1
    go_wp2_with fail
    refine (rat_walk l next n _ w1 (Sl.kn HR.out F1.out.g) (by omega)).mono ?_
    rintro e w3 ⟨i, rfl, hi, g3⟩
    have F3 := hid (F1.out.call g3)
    have R3 := hid (Sl.kn HR.out F3.out.g)
    have HI := hid hi
    clear c0 c1 g3 hi
    have c0 : w3.cell? ⟨w.heap.size, 0, none⟩ = some (.int .i64 next) := by rw [cell_of_row _ _ _ _ _ _ F3.out.b0]; rfl
    have c1 : w3.cell? ⟨w.heap.size, 1, none⟩ = some (.slice ao l.length cap) := by rw [cell_of_row _ _ _ _ _ _ F3.out.b0]; rfl
    have a0 : w3.cell? ⟨w.heap.size + 1, 0, none⟩ = some (.int .i64 0) := by rw [cell_of_row _ _ _ _ _ _ F3.out.b1]; rfl
    have a1 : w3.cell? ⟨w.heap.size + 1, 1, none⟩ = some (.slice none 0 0) := by rw [cell_of_row _ _ _ _ _ _ F3.out.b1]; rfl
    have f0 : w3.frozen? ⟨w.heap.size + 1, 0, none⟩ = false := frozen_of_row _ _ _ _ _ F3.out.b1
    have f1 : w3.frozen? ⟨w.heap.size + 1, 1, none⟩ = false := frozen_of_row _ _ _ _ _ F3.out.b1
    rcases HI.out with ⟨hlk, rfl⟩ | ⟨k, hlk, rfl, hk⟩
    · have HE := hid (show r = (.zero, 102) from HRR.out.trans (rel_exp0 HOK.out hlk))
      clear hlk
      go_wp2
      rw [HE.out]
      exact fin_te (p := 8) (q := 9) (r := (.zero, 102)) (ao := none) (n := 0) (cap := 0) F3.out (Sl.nil _ _) rfl rfl rfl rfl
    · have HLK := hid hlk
      obtain ⟨b, off, rfl⟩ := Rd.base R3.out (by omega)
      obtain ⟨d0, d1, d2, d3⟩ := Rd.four R3.out k hk
      generalize l.getD k Ls.zero = x at *
      have i1 : (0 : Int) ≤ (k : Int) := by omega
      have i2 : (k : Int) < (l.length : Int) := by omega
      clear hlk
      by_cases q1 : ¬ x.holder = ho
      · have HE := hid (show r = (.zero, 102) from HRR.out.trans (rel_exp1 HOK.out HLK.out (fun h => q1 h.1)))
        have zb : (x.holder != ho) = true := by simpa using q1
        go_wp2
        rw [HE.out]
        exact fin_te (p := 8) (q := 9) (r := (.zero, 102)) (ao := none) (n := 0) (cap := 0) F3.out (Sl.nil _ _) rfl rfl rfl rfl
      replace q1 : x.holder = ho := Classical.not_not.1 q1
      have Q1 := hid q1
      rw [Q1.out] at d1
      clear q1
      by_cases q2 : ¬ x.token = tk
      · have HE := hid (show r = (.zero, 102) from HRR.out.trans (rel_exp1 HOK.out HLK.out (fun h => q2 h.2)))
        have zb : (x.token != tk) = true := by simpa using q2
        go_wp2
        rw [HE.out]
        exact fin_te (p := 8) (q := 9) (r := (.zero, 102)) (ao := none) (n := 0) (cap := 0) F3.out (Sl.nil _ _) rfl rfl rfl rfl
      replace q2 : x.token = tk := Classical.not_not.1 q2
      have Q2 := hid q2
      rw [Q2.out] at d2
      clear q2
      have HE := hid (show r = (⟨next, l.filter (other n)⟩, 0) from HRR.out.trans ((rel_ok HOK.out HLK.out ⟨Q1.out, Q2.out⟩).trans (by rw [filter_del HA.out])))
      go_wp2
      clear a0 a1 f0 f1
      go_region_held3 (fun w' => w'.cell? ⟨w.heap.size, 0, none⟩ = some (.int .i64 next) ∧ w'.cell? ⟨w.heap.size, 1, none⟩ = some (.slice (some ⟨b, off, none⟩) l.length cap)) (first | go_keep | exact ⟨c0, c1⟩ | fail)
        (first
          | (refine step_callS rfl 51 #[.tmp 44, .tmp 45] #[22, 3] rfl enterWithout #[.slice (some ⟨b, off, none⟩) l.length cap, .int .i64 n] (by simp [Act.eval, Act.put]) (without_call (w0 := w3) R3.out (grown_drew _) hn) ?_
             rintro e w5 ⟨ao5, n5, cap5, rfl, hk5, M5⟩
             refine ⟨_, rfl, ?_⟩
             have F5 := hid (F3.out.call M5.out.2.2.2)
             have c0 := grown_cell M5.out.2.2.2 c0 (by simp)
             have c1 := grown_cell M5.out.2.2.2 c1 (by simp)
             have a0 : w5.cell? ⟨w.heap.size + 1, 0, none⟩ = some (.int .i64 0) := by rw [cell_of_row _ _ _ _ _ _ F5.out.b1]; rfl
             have a1 : w5.cell? ⟨w.heap.size + 1, 1, none⟩ = some (.slice none 0 0) := by rw [cell_of_row _ _ _ _ _ _ F5.out.b1]; rfl
             have f0 : w5.frozen? ⟨w.heap.size + 1, 0, none⟩ = false := frozen_of_row _ _ _ _ _ F5.out.b1
             have f1 : w5.frozen? ⟨w.heap.size + 1, 1, none⟩ = false := frozen_of_row _ _ _ _ _ F5.out.b1)
          | fail)
      all_goals go_wp2
      all_goals rw [HE.out]
      all_goals exact fin_te (p := 8) (q := 9) (r := (⟨next, l.filter (other n)⟩, 0))  F5.out (Own.rd M5.out.2.1) rfl rfl rfl rfl
end Go.Proofs.Ytafippjpaakonaa
