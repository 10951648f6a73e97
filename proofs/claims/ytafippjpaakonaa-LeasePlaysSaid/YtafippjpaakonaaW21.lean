/- Leases: the reference's Acquire. -/
import Derived.Test.YtafippjpaakonaaW20
import Derived.Test.YtafippjpaakonaaW17
namespace Go.Proofs.Ytafippjpaakonaa
open Go.RowKit
set_option linter.unusedSimpArgs false
set_option linter.unusedVariables false

set_option maxRecDepth 100000 in
set_option maxHeartbeats 4000000 in
theorem racquire_walk (t : Tb) (n ho now d : Int) (s : Value) (w : World) (hR : Rd w s t.ls) (hn : t.ls.length ≤ 1000000) :
    Calls Try.prog 34 #[tval t.next s, .int .i64 n, .int .i64 ho, .int .i64 now, .int .i64 d] w (AcqPost (acq cds t n ho now d) w) := by
  obtain ⟨next, l⟩ := t
  simp only at hR hn ⊢
  obtain ⟨ao, cap, rfl, hc1, hc2⟩ := Sl.shape hR
  have HR := hid hR
  obtain ⟨r, hr⟩ : ∃ r, r = acq cds ⟨next, l⟩ n ho now d := ⟨_, rfl⟩
  rw [← hr]
  have HRR := hid hr
  clear hR hr
  unfold tval
  obtain ⟨W, hW⟩ : ∃ W, W = ((w.alloc (.cells #[.int .i64 next, .slice ao l.length cap] 24)).alloc (.cells #[.int .i64 0, .slice none 0 0] 24)) := ⟨_, rfl⟩
  have F0 := hid (show RF 24 w W next (.slice ao l.length cap) [.int .i64 0, .slice none 0 0] from by rw [hW]; exact RF.start w next _ _ _)
  have HWW := hid hW
  clear hW
  go_enter Try.func34, Try.ntmps34
  go_wp2_with fail
  rw [← HWW.out]
  refine (rvalid_walk l next _ W (Sl.kn HR.out F0.out.g) (by omega)).mono ?_
  rintro e w1 ⟨rfl, g1⟩
  have F1 := hid (F0.out.call g1)
  clear g1 HWW
  have a0 : w1.cell? ⟨w.heap.size + 1, 0, none⟩ = some (.int .i64 0) := by rw [cell_of_row _ _ _ _ _ _ F1.out.b1]; rfl
  have a1 : w1.cell? ⟨w.heap.size + 1, 1, none⟩ = some (.slice none 0 0) := by rw [cell_of_row _ _ _ _ _ _ F1.out.b1]; rfl
  have f0 : w1.frozen? ⟨w.heap.size + 1, 0, none⟩ = false := frozen_of_row _ _ _ _ _ F1.out.b1
  have f1 : w1.frozen? ⟨w.heap.size + 1, 1, none⟩ = false := frozen_of_row _ _ _ _ _ F1.out.b1
  cases hok : Tb.ok ⟨next, l⟩ with
  | false =>
    have HE := hid (show r = (.zero, 0, 1) from HRR.out.trans (acq_inv1 hok))
    go_wp2
    rw [HE.out]
    exact fin_acq (r := (.zero, 0, 1)) (ao := none) (n := 0) (cap := 0) F1.out (Sl.nil _ _) rfl rfl rfl rfl rfl
  | true =>
    have HOK := hid hok
    have hA := ((Tb.ok_iff _).1 hok).2.1
    have hb := ((Tb.ok_iff _).1 hok).1
    simp only at hA hb
    have HA := hid hA
    obtain ⟨hb1, hb2, hb3⟩ := hb
    unfold Top at hb2
    clear hA hok
    go_wp2_with fail
    refine (rtimely_walk now d w1).mono ?_
    rintro e w2 ⟨rfl, rfl⟩
    cases htm : timely now d with
    | false =>
      have HE := hid (show r = (.zero, 0, 1) from HRR.out.trans (acq_inv2 htm))
      go_wp2
      rw [HE.out]
      exact fin_acq (r := (.zero, 0, 1)) (ao := none) (n := 0) (cap := 0) F1.out (Sl.nil _ _) rfl rfl rfl rfl rfl
    | true =>
      have HT := hid htm
      obtain ⟨t1, t2, t3, t4⟩ := timely_range htm
      have c0 : w2.cell? ⟨w.heap.size, 0, none⟩ = some (.int .i64 next) := by rw [cell_of_row _ _ _ _ _ _ F1.out.b0]; rfl
      have c1 : w2.cell? ⟨w.heap.size, 1, none⟩ = some (.slice ao l.length cap) := by rw [cell_of_row _ _ _ _ _ _ F1.out.b0]; rfl
      clear htm
      go_wp2_with fail
      refine (rat_walk l next n _ w2 (Sl.kn HR.out F1.out.g) (by omega)).mono ?_
      rintro e w3 ⟨i, rfl, hi, g3⟩
      have F3 := hid (F1.out.call g3)
      have R3 := hid (Sl.kn HR.out F3.out.g)
      have HI := hid hi
      clear c0 c1 a0 a1 f0 f1 g3 hi
      have c0 : w3.cell? ⟨w.heap.size, 0, none⟩ = some (.int .i64 next) := by rw [cell_of_row _ _ _ _ _ _ F3.out.b0]; rfl
      have c1 : w3.cell? ⟨w.heap.size, 1, none⟩ = some (.slice ao l.length cap) := by rw [cell_of_row _ _ _ _ _ _ F3.out.b0]; rfl
      have a0 : w3.cell? ⟨w.heap.size + 1, 0, none⟩ = some (.int .i64 0) := by rw [cell_of_row _ _ _ _ _ _ F3.out.b1]; rfl
      have a1 : w3.cell? ⟨w.heap.size + 1, 1, none⟩ = some (.slice none 0 0) := by rw [cell_of_row _ _ _ _ _ _ F3.out.b1]; rfl
      have f0 : w3.frozen? ⟨w.heap.size + 1, 0, none⟩ = false := frozen_of_row _ _ _ _ _ F3.out.b1
      have f1 : w3.frozen? ⟨w.heap.size + 1, 1, none⟩ = false := frozen_of_row _ _ _ _ _ F3.out.b1
      rcases HI.out with ⟨hlk, rfl⟩ | ⟨k, hlk, rfl, hk⟩
      · have HLK := hid hlk
        have hx0 : ∀ x, look n l = some x → ¬ now < x.till := fun x hx => by rw [HLK.out] at hx; cases hx
        have HX := hid hx0
        clear hlk hx0
        by_cases h64 : 64 ≤ l.length
        · have HE := hid (show r = (.zero, 0, 8) from HRR.out.trans (acq_full HOK.out HT.out HX.out (.inl ⟨HLK.out, h64⟩)))
          go_wp2
          rw [HE.out]
          exact fin_acq (r := (.zero, 0, 8)) (ao := none) (n := 0) (cap := 0) F3.out (Sl.nil _ _) rfl rfl rfl rfl rfl
        have i64 : (l.length : Int) < 64 := by omega
        by_cases htop : next = 1099511627776
        · have HE := hid (show r = (.zero, 0, 8) from HRR.out.trans (acq_full HOK.out HT.out HX.out (.inr htop)))
          go_wp2
          rw [HE.out]
          exact fin_acq (r := (.zero, 0, 8)) (ao := none) (n := 0) (cap := 0) F3.out (Sl.nil _ _) rfl rfl rfl rfl rfl
        have hlt : next + 1 ≤ 1099511627776 := by omega
        have HE := hid (show r = (⟨next + 1, ins ⟨n, ho, next, now + d⟩ l⟩, next, 0) from HRR.out.trans (acq_ok HOK.out HT.out HX.out (fun _ => by omega) htop))
        have hbq : (next == 1099511627776) = false := by simpa using htop
        clear a0 a1 f0 f1
        have hz3 := (Array.getElem?_eq_some_iff.1 F3.out.b1).1
        have nz1 : ¬ w3.heap.size = w.heap.size + 1 := by omega
        have nz2 : ¬ w.heap.size + 1 = w3.heap.size := by omega
        clear hz3
        go_wp2
        obtain ⟨w4, hw4⟩ : ∃ w4, w4 = w3.alloc (.cells #[.int .i64 n, .int .i64 ho, .int .i64 next, .int .i64 (now + d)] 38) := ⟨_, rfl⟩
        have b4 : w4.heap[w3.heap.size]? = some (.cells #[.int .i64 n, .int .i64 ho, .int .i64 next, .int .i64 (now + d)] 38 (0, 0)) := by rw [hw4]; exact heap_at rfl
        have F4 := hid (show RF 24 w w4 next (.slice ao l.length cap) [.int .i64 0, .slice none 0 0] from by rw [hw4]; exact F3.out.call (World.grownBy_alloc _ _ _))
        rw [← hw4]
        have B4 := hid b4
        have R4 := hid (Sl.kn HR.out F4.out.g)
        clear c0 c1 hw4 b4
        have c0 : w4.cell? ⟨w.heap.size, 0, none⟩ = some (.int .i64 next) := by rw [cell_of_row _ _ _ _ _ _ F4.out.b0]; rfl
        have c1 : w4.cell? ⟨w.heap.size, 1, none⟩ = some (.slice ao l.length cap) := by rw [cell_of_row _ _ _ _ _ _ F4.out.b0]; rfl
        have a0 : w4.cell? ⟨w.heap.size + 1, 0, none⟩ = some (.int .i64 0) := by rw [cell_of_row _ _ _ _ _ _ F4.out.b1]; rfl
        have a1 : w4.cell? ⟨w.heap.size + 1, 1, none⟩ = some (.slice none 0 0) := by rw [cell_of_row _ _ _ _ _ _ F4.out.b1]; rfl
        have f0 : w4.frozen? ⟨w.heap.size + 1, 0, none⟩ = false := frozen_of_row _ _ _ _ _ F4.out.b1
        have f1 : w4.frozen? ⟨w.heap.size + 1, 1, none⟩ = false := frozen_of_row _ _ _ _ _ F4.out.b1
        have e0 : w4.cell? ⟨w3.heap.size, 0, none⟩ = some (.int .i64 n) := by rw [cell_of_row _ _ _ _ _ _ B4.out]; rfl
        have e1 : w4.cell? ⟨w3.heap.size, 1, none⟩ = some (.int .i64 ho) := by rw [cell_of_row _ _ _ _ _ _ B4.out]; rfl
        have e2 : w4.cell? ⟨w3.heap.size, 2, none⟩ = some (.int .i64 next) := by rw [cell_of_row _ _ _ _ _ _ B4.out]; rfl
        have e3 : w4.cell? ⟨w3.heap.size, 3, none⟩ = some (.int .i64 (now + d)) := by rw [cell_of_row _ _ _ _ _ _ B4.out]; rfl
        have hbq : (next == 1099511627776) = false := by simpa using htop
        have hw1 : IntKind.i64.wrap (next + 1) = next + 1 := by rw [IntKind.wrap_i64]; omega
        go_region_held3 (fun w' => w'.cell? ⟨w.heap.size, 0, none⟩ = some (.int .i64 next) ∧ w'.cell? ⟨w.heap.size, 1, none⟩ = some (.slice ao l.length cap) ∧ w'.cell? ⟨w3.heap.size, 0, none⟩ = some (.int .i64 n) ∧ w'.cell? ⟨w3.heap.size, 1, none⟩ = some (.int .i64 ho) ∧ w'.cell? ⟨w3.heap.size, 2, none⟩ = some (.int .i64 next) ∧ w'.cell? ⟨w3.heap.size, 3, none⟩ = some (.int .i64 (now + d))) (first | go_keep | exact ⟨c0, c1, e0, e1, e2, e3⟩ | fail)
          (first
            | (refine step_callS rfl 50 #[.tmp 63, .tmp 64, .tmp 67] #[24, 38, 3] rfl enterPut #[.agg #[.int .i64 next, .slice ao l.length cap], .agg #[.int .i64 n, .int .i64 ho, .int .i64 next, .int .i64 (now + d)], .int .i64 (next + 1)] (by simp [Act.eval, Act.put, hw1]) (put_call (w0 := w4) (x := ⟨n, ho, next, now + d⟩) R4.out (grown_drew _) hn HA.out) ?_
               rintro e w5 ⟨ao5, n5, cap5, rfl, M5⟩
               refine ⟨_, rfl, ?_⟩
               have F5 := hid (F4.out.call M5.out.2)
               have c0 := grown_cell M5.out.2 c0 (by simp)
               have c1 := grown_cell M5.out.2 c1 (by simp)
               have e0 := grown_cell M5.out.2 e0 (by simp)
               have e1 := grown_cell M5.out.2 e1 (by simp)
               have e2 := grown_cell M5.out.2 e2 (by simp)
               have e3 := grown_cell M5.out.2 e3 (by simp)
               have a0 : w5.cell? ⟨w.heap.size + 1, 0, none⟩ = some (.int .i64 0) := by rw [cell_of_row _ _ _ _ _ _ F5.out.b1]; rfl
               have a1 : w5.cell? ⟨w.heap.size + 1, 1, none⟩ = some (.slice none 0 0) := by rw [cell_of_row _ _ _ _ _ _ F5.out.b1]; rfl
               have f0 : w5.frozen? ⟨w.heap.size + 1, 0, none⟩ = false := frozen_of_row _ _ _ _ _ F5.out.b1
               have f1 : w5.frozen? ⟨w.heap.size + 1, 1, none⟩ = false := frozen_of_row _ _ _ _ _ F5.out.b1)
            | fail)
        all_goals go_wp2
        all_goals rw [HE.out]
        all_goals exact fin_acq (r := (⟨next + 1, ins ⟨n, ho, next, now + d⟩ l⟩, next, 0)) F5.out M5.out.1 rfl rfl rfl rfl rfl
      · have HLK := hid hlk
        obtain ⟨b, off, rfl⟩ := Rd.base R3.out (by omega)
        obtain ⟨d0, d1, d2, d3⟩ := Rd.four R3.out k hk
        generalize l.getD k Ls.zero = x at *
        have i1 : (0 : Int) ≤ (k : Int) := by omega
        have i2 : (k : Int) < (l.length : Int) := by omega
        clear hlk
        by_cases hst : now < x.till
        · have HE := hid (show r = (.zero, 0, 11) from HRR.out.trans (acq_state HOK.out HT.out HLK.out hst))
          go_wp2
          rw [HE.out]
          exact fin_acq (r := (.zero, 0, 11)) (ao := none) (n := 0) (cap := 0) F3.out (Sl.nil _ _) rfl rfl rfl rfl rfl
        have hx0 : ∀ y, look n l = some y → ¬ now < y.till := fun y hy => by rw [HLK.out] at hy; obtain rfl := Option.some.inj hy; exact hst
        have HX := hid hx0
        clear hx0
        by_cases htop : next = 1099511627776
        · have HE := hid (show r = (.zero, 0, 8) from HRR.out.trans (acq_full HOK.out HT.out HX.out (.inr htop)))
          go_wp2
          rw [HE.out]
          exact fin_acq (r := (.zero, 0, 8)) (ao := none) (n := 0) (cap := 0) F3.out (Sl.nil _ _) rfl rfl rfl rfl rfl
        have hlt : next + 1 ≤ 1099511627776 := by omega
        have HE := hid (show r = (⟨next + 1, ins ⟨n, ho, next, now + d⟩ l⟩, next, 0) from HRR.out.trans (acq_ok HOK.out HT.out HX.out (fun e => by rw [HLK.out] at e; cases e) htop))
        have hbq : (next == 1099511627776) = false := by simpa using htop
        clear a0 a1 f0 f1
        have hz3 := (Array.getElem?_eq_some_iff.1 F3.out.b1).1
        have nz1 : ¬ w3.heap.size = w.heap.size + 1 := by omega
        have nz2 : ¬ w.heap.size + 1 = w3.heap.size := by omega
        clear hz3
        go_wp2
        obtain ⟨w4, hw4⟩ : ∃ w4, w4 = w3.alloc (.cells #[.int .i64 n, .int .i64 ho, .int .i64 next, .int .i64 (now + d)] 38) := ⟨_, rfl⟩
        have b4 : w4.heap[w3.heap.size]? = some (.cells #[.int .i64 n, .int .i64 ho, .int .i64 next, .int .i64 (now + d)] 38 (0, 0)) := by rw [hw4]; exact heap_at rfl
        have F4 := hid (show RF 24 w w4 next (.slice (some ⟨b, off, none⟩) l.length cap) [.int .i64 0, .slice none 0 0] from by rw [hw4]; exact F3.out.call (World.grownBy_alloc _ _ _))
        rw [← hw4]
        have B4 := hid b4
        have R4 := hid (Sl.kn HR.out F4.out.g)
        clear c0 c1 hw4 b4
        have c0 : w4.cell? ⟨w.heap.size, 0, none⟩ = some (.int .i64 next) := by rw [cell_of_row _ _ _ _ _ _ F4.out.b0]; rfl
        have c1 : w4.cell? ⟨w.heap.size, 1, none⟩ = some (.slice (some ⟨b, off, none⟩) l.length cap) := by rw [cell_of_row _ _ _ _ _ _ F4.out.b0]; rfl
        have a0 : w4.cell? ⟨w.heap.size + 1, 0, none⟩ = some (.int .i64 0) := by rw [cell_of_row _ _ _ _ _ _ F4.out.b1]; rfl
        have a1 : w4.cell? ⟨w.heap.size + 1, 1, none⟩ = some (.slice none 0 0) := by rw [cell_of_row _ _ _ _ _ _ F4.out.b1]; rfl
        have f0 : w4.frozen? ⟨w.heap.size + 1, 0, none⟩ = false := frozen_of_row _ _ _ _ _ F4.out.b1
        have f1 : w4.frozen? ⟨w.heap.size + 1, 1, none⟩ = false := frozen_of_row _ _ _ _ _ F4.out.b1
        have e0 : w4.cell? ⟨w3.heap.size, 0, none⟩ = some (.int .i64 n) := by rw [cell_of_row _ _ _ _ _ _ B4.out]; rfl
        have e1 : w4.cell? ⟨w3.heap.size, 1, none⟩ = some (.int .i64 ho) := by rw [cell_of_row _ _ _ _ _ _ B4.out]; rfl
        have e2 : w4.cell? ⟨w3.heap.size, 2, none⟩ = some (.int .i64 next) := by rw [cell_of_row _ _ _ _ _ _ B4.out]; rfl
        have e3 : w4.cell? ⟨w3.heap.size, 3, none⟩ = some (.int .i64 (now + d)) := by rw [cell_of_row _ _ _ _ _ _ B4.out]; rfl
        have hbq : (next == 1099511627776) = false := by simpa using htop
        have hw1 : IntKind.i64.wrap (next + 1) = next + 1 := by rw [IntKind.wrap_i64]; omega
        go_region_held3 (fun w' => w'.cell? ⟨w.heap.size, 0, none⟩ = some (.int .i64 next) ∧ w'.cell? ⟨w.heap.size, 1, none⟩ = some (.slice (some ⟨b, off, none⟩) l.length cap) ∧ w'.cell? ⟨w3.heap.size, 0, none⟩ = some (.int .i64 n) ∧ w'.cell? ⟨w3.heap.size, 1, none⟩ = some (.int .i64 ho) ∧ w'.cell? ⟨w3.heap.size, 2, none⟩ = some (.int .i64 next) ∧ w'.cell? ⟨w3.heap.size, 3, none⟩ = some (.int .i64 (now + d))) (first | go_keep | exact ⟨c0, c1, e0, e1, e2, e3⟩ | fail)
          (first
            | (refine step_callS rfl 50 #[.tmp 63, .tmp 64, .tmp 67] #[24, 38, 3] rfl enterPut #[.agg #[.int .i64 next, .slice (some ⟨b, off, none⟩) l.length cap], .agg #[.int .i64 n, .int .i64 ho, .int .i64 next, .int .i64 (now + d)], .int .i64 (next + 1)] (by simp [Act.eval, Act.put, hw1]) (put_call (w0 := w4) (x := ⟨n, ho, next, now + d⟩) R4.out (grown_drew _) hn HA.out) ?_
               rintro e w5 ⟨ao5, n5, cap5, rfl, M5⟩
               refine ⟨_, rfl, ?_⟩
               have F5 := hid (F4.out.call M5.out.2)
               have c0 := grown_cell M5.out.2 c0 (by simp)
               have c1 := grown_cell M5.out.2 c1 (by simp)
               have e0 := grown_cell M5.out.2 e0 (by simp)
               have e1 := grown_cell M5.out.2 e1 (by simp)
               have e2 := grown_cell M5.out.2 e2 (by simp)
               have e3 := grown_cell M5.out.2 e3 (by simp)
               have a0 : w5.cell? ⟨w.heap.size + 1, 0, none⟩ = some (.int .i64 0) := by rw [cell_of_row _ _ _ _ _ _ F5.out.b1]; rfl
               have a1 : w5.cell? ⟨w.heap.size + 1, 1, none⟩ = some (.slice none 0 0) := by rw [cell_of_row _ _ _ _ _ _ F5.out.b1]; rfl
               have f0 : w5.frozen? ⟨w.heap.size + 1, 0, none⟩ = false := frozen_of_row _ _ _ _ _ F5.out.b1
               have f1 : w5.frozen? ⟨w.heap.size + 1, 1, none⟩ = false := frozen_of_row _ _ _ _ _ F5.out.b1)
            | fail)
        all_goals go_wp2
        all_goals rw [HE.out]
        all_goals exact fin_acq (r := (⟨next + 1, ins ⟨n, ho, next, now + d⟩ l⟩, next, 0)) F5.out M5.out.1 rfl rfl rfl rfl rfl
end Go.Proofs.Ytafippjpaakonaa
