/- Leases: the reference's Renew. (printed by gen_w22.py) -/
import Derived.Test.YtafippjpaakonaaW20
import Derived.Test.YtafippjpaakonaaW17
namespace Go.Proofs.Ytafippjpaakonaa
open Go.RowKit
set_option linter.unusedSimpArgs false
set_option linter.unusedVariables false
set_option maxRecDepth 100000 in
set_option maxHeartbeats 4000000 in
theorem rrenew_walk (t : Tb) (n ho tk now d : Int) (s : Value) (w : World) (hR : Rd w s t.ls) (hn : t.ls.length ≤ 1000000) :
    Calls Try.prog 35 #[tval t.next s, .int .i64 n, .int .i64 ho, .int .i64 tk, .int .i64 now, .int .i64 d] w (TePost (ren cds t n ho tk now d) w) := by
  obtain ⟨next, l⟩ := t
  simp only at hR hn ⊢
  obtain ⟨ao, cap, rfl, hc1, hc2⟩ := Sl.shape hR
  have HR := hid hR
  obtain ⟨r, hr⟩ : ∃ r, r = ren cds ⟨next, l⟩ n ho tk now d := ⟨_, rfl⟩
  rw [← hr]
  have HRR := hid hr
  clear hR hr
  unfold tval
  obtain ⟨W, hW⟩ : ∃ W, W = ((w.alloc (.cells #[.int .i64 next, .slice ao l.length cap] 24)).alloc (.cells [.int .i64 0, .slice none 0 0].toArray 24)) := ⟨_, rfl⟩
  have F0 := hid (show RF 24 w W next (.slice ao l.length cap) [.int .i64 0, .slice none 0 0] from by rw [hW]; exact RF.start w next _ _ _)
  have HWW := hid hW
  clear hW
  go_enter Try.func35, Try.ntmps35
  go_wp2_with fail
  rw [← HWW.out]
  refine (rvalid_walk l next _ W (Sl.kn HR.out F0.out.g) (by omega)).mono ?_
  rintro e w1 ⟨rfl, g1⟩
  have F1 := hid (F0.out.call g1)
  clear g1 HWW
  have c0 : w1.cell? ⟨w.heap.size, 0, none⟩ = some (.int .i64 next) := by rw [cell_of_row _ _ _ _ _ _ F1.out.b0]; rfl
  have c1 : w1.cell? ⟨w.heap.size, 1, none⟩ = some (.slice ao l.length cap) := by rw [cell_of_row _ _ _ _ _ _ F1.out.b0]; rfl
  have a0 : w1.cell? ⟨w.heap.size + 1, 0, none⟩ = some (.int .i64 0) := by rw [cell_of_row _ _ _ _ _ _ F1.out.b1]; rfl
  have a1 : w1.cell? ⟨w.heap.size + 1, 1, none⟩ = some (.slice none 0 0) := by rw [cell_of_row _ _ _ _ _ _ F1.out.b1]; rfl
  have f0 : w1.frozen? ⟨w.heap.size + 1, 0, none⟩ = false := frozen_of_row _ _ _ _ _ F1.out.b1
  have f1 : w1.frozen? ⟨w.heap.size + 1, 1, none⟩ = false := frozen_of_row _ _ _ _ _ F1.out.b1
  cases hok : Tb.ok ⟨next, l⟩ with
  | false =>
    have HE := hid (show r = (.zero, 1) from HRR.out.trans (ren_inv1 hok))
    go_wp2
    rw [HE.out]
    exact fin_te (p := 12) (q := 13) (r := (.zero, 1)) (ao := none) (n := 0) (cap := 0) F1.out (Sl.nil _ _) rfl rfl rfl rfl
  | true =>
    have HOK := hid hok
    have hA := ((Tb.ok_iff _).1 hok).2.1
    have hb := ((Tb.ok_iff _).1 hok).1
    simp only at hA hb
    have HA := hid hA
    obtain ⟨hb1, hb2, hb3⟩ := hb
    unfold Top at hb2
    clear hA hok
    go_wp2_with fail
    refine (rtimely_walk now d w1).mono ?_
    rintro e w2 ⟨rfl, rfl⟩
    cases htm : timely now d with
    | false =>
      have HE := hid (show r = (.zero, 1) from HRR.out.trans (ren_inv2 htm))
      go_wp2
      rw [HE.out]
      exact fin_te (p := 12) (q := 13) (r := (.zero, 1)) (ao := none) (n := 0) (cap := 0) F1.out (Sl.nil _ _) rfl rfl rfl rfl
    | true =>
     have HT := hid htm
     obtain ⟨t1, t2, t3, t4⟩ := timely_range htm
     clear htm a0 a1 f0 f1
     go_wp2_with fail
     refine (rat_walk l next n _ w2 (Sl.kn HR.out F1.out.g) (by omega)).mono ?_
     rintro e w3 ⟨i, rfl, hi, g3⟩
     have F3 := hid (F1.out.call g3)
     have R3 := hid (Sl.kn HR.out F3.out.g)
     have HI := hid hi
     clear c0 c1 g3 hi
     have c0 : w3.cell? ⟨w.heap.size, 0, none⟩ = some (.int .i64 next) := by rw [cell_of_row _ _ _ _ _ _ F3.out.b0]; rfl
     have c1 : w3.cell? ⟨w.heap.size, 1, none⟩ = some (.slice ao l.length cap) := by rw [cell_of_row _ _ _ _ _ _ F3.out.b0]; rfl
     have a0 : w3.cell? ⟨w.heap.size + 1, 0, none⟩ = some (.int .i64 0) := by rw [cell_of_row _ _ _ _ _ _ F3.out.b1]; rfl
     have a1 : w3.cell? ⟨w.heap.size + 1, 1, none⟩ = some (.slice none 0 0) := by rw [cell_of_row _ _ _ _ _ _ F3.out.b1]; rfl
     have f0 : w3.frozen? ⟨w.heap.size + 1, 0, none⟩ = false := frozen_of_row _ _ _ _ _ F3.out.b1
     have f1 : w3.frozen? ⟨w.heap.size + 1, 1, none⟩ = false := frozen_of_row _ _ _ _ _ F3.out.b1
     rcases HI.out with ⟨hlk, rfl⟩ | ⟨k, hlk, rfl, hk⟩
     · have HE := hid (show r = (.zero, 102) from HRR.out.trans (ren_exp0 HOK.out HT.out hlk))
       clear hlk
       go_wp2
       rw [HE.out]
       exact fin_te (p := 12) (q := 13) (r := (.zero, 102)) (ao := none) (n := 0) (cap := 0) F3.out (Sl.nil _ _) rfl rfl rfl rfl
     · have HLK := hid hlk
       obtain ⟨b, off, rfl⟩ := Rd.base R3.out (by omega)
       obtain ⟨d0, d1, d2, d3⟩ := Rd.four R3.out k hk
       generalize l.getD k Ls.zero = x at *
       have i1 : (0 : Int) ≤ (k : Int) := by omega
       have i2 : (k : Int) < (l.length : Int) := by omega
       clear hlk
       by_cases q1 : ¬ x.holder = ho
       · have HE := hid (show r = (.zero, 102) from HRR.out.trans (ren_exp1 HOK.out HT.out HLK.out (fun h => q1 h.1)))
         have zb : (x.holder != ho) = true := by simpa using q1
         go_wp2
         rw [HE.out]
         exact fin_te (p := 12) (q := 13) (r := (.zero, 102)) (ao := none) (n := 0) (cap := 0) F3.out (Sl.nil _ _) rfl rfl rfl rfl
       replace q1 : x.holder = ho := Classical.not_not.1 q1
       have Q1 := hid q1
       rw [Q1.out] at d1
       clear q1
       by_cases q2 : ¬ x.token = tk
       · have HE := hid (show r = (.zero, 102) from HRR.out.trans (ren_exp1 HOK.out HT.out HLK.out (fun h => q2 h.2.1)))
         have zb : (x.token != tk) = true := by simpa using q2
         go_wp2
         rw [HE.out]
         exact fin_te (p := 12) (q := 13) (r := (.zero, 102)) (ao := none) (n := 0) (cap := 0) F3.out (Sl.nil _ _) rfl rfl rfl rfl
       replace q2 : x.token = tk := Classical.not_not.1 q2
       have Q2 := hid q2
       rw [Q2.out] at d2
       clear q2
       by_cases q3 : ¬ now < x.till
       · have HE := hid (show r = (.zero, 102) from HRR.out.trans (ren_exp1 HOK.out HT.out HLK.out (fun h => q3 h.2.2)))
         
         go_wp2
         rw [HE.out]
         exact fin_te (p := 12) (q := 13) (r := (.zero, 102)) (ao := none) (n := 0) (cap := 0) F3.out (Sl.nil _ _) rfl rfl rfl rfl
       replace q3 : now < x.till := Classical.not_not.1 q3
       have HE := hid (show r = (⟨next, ins ⟨n, ho, tk, max x.till (now + d)⟩ l⟩, 0) from HRR.out.trans (ren_ok HOK.out HT.out HLK.out ⟨Q1.out, Q2.out, q3⟩))
       have hnm := (look_some HLK.out).1
       rw [hnm] at d0
       clear hnm a0 a1 f0 f1
       generalize hxt : x.till = till at *
       have HXT := hid hxt
       clear hxt
       have z0 := block_lt_of_cell c0
       have z1 := block_lt_of_cell d0
       go_wp2_with fail
       all_goals first
         | (have hm : max till (now + d) = till := by omega
            have HM := hid hm
            clear hm
            refine (put_call (w0 := w3) (x := ⟨n, ho, tk, till⟩) R3.out (World.grownBy_alloc _ _ _) hn HA.out).mono ?_
            rintro e w5 ⟨ao5, n5, cap5, rfl, M5⟩
            have F5 := hid (F3.out.call M5.out.2)
            clear c0 c1 z0 z1
            have a0 : w5.cell? ⟨w.heap.size + 1, 0, none⟩ = some (.int .i64 0) := by rw [cell_of_row _ _ _ _ _ _ F5.out.b1]; rfl
            have a1 : w5.cell? ⟨w.heap.size + 1, 1, none⟩ = some (.slice none 0 0) := by rw [cell_of_row _ _ _ _ _ _ F5.out.b1]; rfl
            have f0 : w5.frozen? ⟨w.heap.size + 1, 0, none⟩ = false := frozen_of_row _ _ _ _ _ F5.out.b1
            have f1 : w5.frozen? ⟨w.heap.size + 1, 1, none⟩ = false := frozen_of_row _ _ _ _ _ F5.out.b1
            go_wp2
            rw [HE.out, HM.out]
            exact fin_te (p := 12) (q := 13) (r := (⟨next, ins ⟨n, ho, tk, till⟩ l⟩, 0))  F5.out M5.out.1 rfl rfl rfl rfl)
         | (have hm : max till (now + d) = (now + d) := by omega
            have HM := hid hm
            clear hm
            refine (put_call (w0 := w3) (x := ⟨n, ho, tk, (now + d)⟩) R3.out (World.grownBy_alloc _ _ _) hn HA.out).mono ?_
            rintro e w5 ⟨ao5, n5, cap5, rfl, M5⟩
            have F5 := hid (F3.out.call M5.out.2)
            clear c0 c1 z0 z1
            have a0 : w5.cell? ⟨w.heap.size + 1, 0, none⟩ = some (.int .i64 0) := by rw [cell_of_row _ _ _ _ _ _ F5.out.b1]; rfl
            have a1 : w5.cell? ⟨w.heap.size + 1, 1, none⟩ = some (.slice none 0 0) := by rw [cell_of_row _ _ _ _ _ _ F5.out.b1]; rfl
            have f0 : w5.frozen? ⟨w.heap.size + 1, 0, none⟩ = false := frozen_of_row _ _ _ _ _ F5.out.b1
            have f1 : w5.frozen? ⟨w.heap.size + 1, 1, none⟩ = false := frozen_of_row _ _ _ _ _ F5.out.b1
            go_wp2
            rw [HE.out, HM.out]
            exact fin_te (p := 12) (q := 13) (r := (⟨next, ins ⟨n, ho, tk, (now + d)⟩ l⟩, 0))  F5.out M5.out.1 rfl rfl rfl rfl)
end Go.Proofs.Ytafippjpaakonaa
