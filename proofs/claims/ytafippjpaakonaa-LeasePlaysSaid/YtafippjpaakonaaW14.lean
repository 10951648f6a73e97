/- Leases: Find. -/
import Derived.Test.YtafippjpaakonaaW12
namespace Go.Proofs.Ytafippjpaakonaa
open Go.RowKit
set_option linter.unusedSimpArgs false
set_option linter.unusedVariables false
/-- what Find returns -/
def FndPost (r : Ls × Bool) (w : World) (e : Ending) (w' : World) : Prop := e = .returned (.tuple #[lval r.1, .bool r.2]) ∧ w.grownBy w' none
theorem fnd_inv {t : Tb} {n now : Int} (h1 : t.ok = false) : fnd t n now = (.zero, false) := by unfold fnd; rw [h1]; rfl
theorem fnd_none {t : Tb} {n now : Int} (h1 : t.ok = true) (h3 : look n t.ls = none) : fnd t n now = (.zero, false) := by unfold fnd; rw [h1, h3]; rfl
theorem fnd_exp {t : Tb} {n now : Int} {x : Ls} (h1 : t.ok = true) (h3 : look n t.ls = some x) (h4 : ¬ now < x.till) : fnd t n now = (.zero, false) := by unfold fnd; rw [h1, h3]; simp only [Bool.not_true, Bool.false_eq_true, if_false]; rw [if_neg h4]
theorem fnd_ok {t : Tb} {n now : Int} {x : Ls} (h1 : t.ok = true) (h3 : look n t.ls = some x) (h4 : now < x.till) : fnd t n now = (x, true) := by unfold fnd; rw [h1, h3]; simp only [Bool.not_true, Bool.false_eq_true, if_false]; rw [if_pos h4]
set_option maxRecDepth 100000 in
set_option maxHeartbeats 2000000 in
theorem find_walk (t : Tb) (n now : Int) (s : Value) (w : World) (hR : Rd w s t.ls) (hn : t.ls.length ≤ 1000000) :
    Calls Try.prog 15 #[tval t.next s, .int .i64 n, .int .i64 now] w (FndPost (fnd t n now) w) := by
  obtain ⟨next, l⟩ := t
  simp only at hR hn ⊢
  obtain ⟨ao, cap, rfl, hc1, hc2⟩ := Sl.shape hR
  have HR := hid hR
  obtain ⟨r, hr⟩ : ∃ r, r = fnd ⟨next, l⟩ n now := ⟨_, rfl⟩
  rw [← hr]
  have HRR := hid hr
  clear hR hr
  unfold tval
  obtain ⟨W, hW⟩ : ∃ W, W = (((w.alloc (.cells #[.int .i64 next, .slice ao l.length cap] 24)).alloc (.cells #[.int .i64 0, .int .i64 0, .int .i64 0, .int .i64 0] 38)).alloc (.cells #[.bool false] 4)) := ⟨_, rfl⟩
  have F0 := hid (show EF 38 4 w W next (.slice ao l.length cap) [.int .i64 0, .int .i64 0, .int .i64 0, .int .i64 0] [.bool false] from by rw [hW]; exact EF.start w next _ _ _ _ _)
  have HWW := hid hW
  clear hW
  have hmf : ∀ (fn : Fn) (first cap : Array Value) (w : World), (Instr.makeFunc fn first cap).run Try.prog w = .ok (.func fn first cap) w := fun _ _ _ _ => rfl
  go_enter_defers Try.func15, Try.ntmps15
  go_wp2_with fail
  rw [← HWW.out]
  refine (valid_walk l next _ W (Sl.kn HR.out F0.out.g) (by omega)).mono ?_
  rintro e w1 ⟨rfl, g1⟩
  have F1 := hid (F0.out.call g1)
  clear g1 hmf HWW
  cases hok : Tb.ok ⟨next, l⟩ with
  | false =>
    have hr : r = (.zero, false) := HRR.out.trans (fnd_inv hok)
    have HE := hid hr
    clear hr
    have a0 : w1.cell? ⟨w.heap.size + 1, 0, none⟩ = some (.int .i64 0) := by rw [cell_of_row _ _ _ _ _ _ F1.out.b1]; rfl
    have f0 : w1.frozen? ⟨w.heap.size + 1, 0, none⟩ = false := frozen_of_row _ _ _ _ _ F1.out.b1
    have a1 : w1.cell? ⟨w.heap.size + 1, 1, none⟩ = some (.int .i64 0) := by rw [cell_of_row _ _ _ _ _ _ F1.out.b1]; rfl
    have f1 : w1.frozen? ⟨w.heap.size + 1, 1, none⟩ = false := frozen_of_row _ _ _ _ _ F1.out.b1
    have a2 : w1.cell? ⟨w.heap.size + 1, 2, none⟩ = some (.int .i64 0) := by rw [cell_of_row _ _ _ _ _ _ F1.out.b1]; rfl
    have f2 : w1.frozen? ⟨w.heap.size + 1, 2, none⟩ = false := frozen_of_row _ _ _ _ _ F1.out.b1
    have a3 : w1.cell? ⟨w.heap.size + 1, 3, none⟩ = some (.int .i64 0) := by rw [cell_of_row _ _ _ _ _ _ F1.out.b1]; rfl
    have f3 : w1.frozen? ⟨w.heap.size + 1, 3, none⟩ = false := frozen_of_row _ _ _ _ _ F1.out.b1
    have a4 : w1.cell? ⟨w.heap.size + 1 + 1, 0, none⟩ = some (.bool false) := by rw [cell_of_row _ _ _ _ _ _ F1.out.b2]; rfl
    have f4 : w1.frozen? ⟨w.heap.size + 1 + 1, 0, none⟩ = false := frozen_of_row _ _ _ _ _ F1.out.b2
    go_wp2
    refine leaves_cons (f := 38) (args := #[.pointer (some ⟨w.heap.size + 1, 0, none⟩), .pointer (some ⟨w.heap.size + 1 + 1, 0, none⟩)]) (by simp) (by simp [go_sem]) ?_
    refine (recFind_walk _ _ _).mono ?_
    rintro e u' w'' ⟨rfl, rfl, rfl⟩
    have FZ := EF.fin38 F1.out (.int .i64 0) (.int .i64 0) (.int .i64 0) (.int .i64 0) (.bool false)
    exact ⟨_, results2 rfl rfl rfl (tyL Ls.zero) (tyB false) FZ.b1 FZ.b2, by rw [HE.out]; exact ⟨rfl, FZ.g⟩⟩
  | true =>
    have hA := ((Tb.ok_iff _).1 hok).2.1
    simp only at hA
    have HOK := hid hok
    have HA := hid hA
    clear hA hok
    have c0 : w1.cell? ⟨w.heap.size, 0, none⟩ = some (.int .i64 next) := by rw [cell_of_row _ _ _ _ _ _ F1.out.b0]; rfl
    have c1 : w1.cell? ⟨w.heap.size, 1, none⟩ = some (.slice ao l.length cap) := by rw [cell_of_row _ _ _ _ _ _ F1.out.b0]; rfl
    go_wp2_with fail
    refine (search_walk l next n _ _ (Sl.kn HR.out F1.out.g) HA.out hn).mono ?_
    rintro e w2 ⟨rfl, g2⟩
    have F2 := hid (F1.out.call g2)
    clear g2 c0 c1
    have c0 : w2.cell? ⟨w.heap.size, 0, none⟩ = some (.int .i64 next) := by rw [cell_of_row _ _ _ _ _ _ F2.out.b0]; rfl
    have c1 : w2.cell? ⟨w.heap.size, 1, none⟩ = some (.slice ao l.length cap) := by rw [cell_of_row _ _ _ _ _ _ F2.out.b0]; rfl
    cases hlk : look n l with
    | none =>
      have HLK := hid hlk
      clear hlk
      simp only [Option.isSome_none]
      have hr : r = (.zero, false) := HRR.out.trans (fnd_none HOK.out HLK.out)
      have HE := hid hr
      clear hr
      have a0 : w2.cell? ⟨w.heap.size + 1, 0, none⟩ = some (.int .i64 0) := by rw [cell_of_row _ _ _ _ _ _ F2.out.b1]; rfl
      have f0 : w2.frozen? ⟨w.heap.size + 1, 0, none⟩ = false := frozen_of_row _ _ _ _ _ F2.out.b1
      have a1 : w2.cell? ⟨w.heap.size + 1, 1, none⟩ = some (.int .i64 0) := by rw [cell_of_row _ _ _ _ _ _ F2.out.b1]; rfl
      have f1 : w2.frozen? ⟨w.heap.size + 1, 1, none⟩ = false := frozen_of_row _ _ _ _ _ F2.out.b1
      have a2 : w2.cell? ⟨w.heap.size + 1, 2, none⟩ = some (.int .i64 0) := by rw [cell_of_row _ _ _ _ _ _ F2.out.b1]; rfl
      have f2 : w2.frozen? ⟨w.heap.size + 1, 2, none⟩ = false := frozen_of_row _ _ _ _ _ F2.out.b1
      have a3 : w2.cell? ⟨w.heap.size + 1, 3, none⟩ = some (.int .i64 0) := by rw [cell_of_row _ _ _ _ _ _ F2.out.b1]; rfl
      have f3 : w2.frozen? ⟨w.heap.size + 1, 3, none⟩ = false := frozen_of_row _ _ _ _ _ F2.out.b1
      have a4 : w2.cell? ⟨w.heap.size + 1 + 1, 0, none⟩ = some (.bool false) := by rw [cell_of_row _ _ _ _ _ _ F2.out.b2]; rfl
      have f4 : w2.frozen? ⟨w.heap.size + 1 + 1, 0, none⟩ = false := frozen_of_row _ _ _ _ _ F2.out.b2
      go_wp2
      refine leaves_cons (f := 38) (args := #[.pointer (some ⟨w.heap.size + 1, 0, none⟩), .pointer (some ⟨w.heap.size + 1 + 1, 0, none⟩)]) (by simp) (by simp [go_sem]) ?_
      refine (recFind_walk _ _ _).mono ?_
      rintro e u' w'' ⟨rfl, rfl, rfl⟩
      have FZ := EF.fin38 F2.out (.int .i64 0) (.int .i64 0) (.int .i64 0) (.int .i64 0) (.bool false)
      exact ⟨_, results2 rfl rfl rfl (tyL Ls.zero) (tyB false) FZ.b1 FZ.b2, by rw [HE.out]; exact ⟨rfl, FZ.g⟩⟩
    | some x =>
      have HLK := hid hlk
      obtain ⟨hk, hx⟩ := look_place HA.out hlk
      have HX := hid hx
      clear hlk hx
      obtain ⟨b, off, rfl⟩ := Rd.base HR.out (by omega)
      obtain ⟨d0, d1, d2, d3⟩ := Rd.four (Sl.kn HR.out F2.out.g) _ hk
      rw [HX.out] at d0 d1 d2 d3
      generalize hkk : (lo n l).length = j at *
      have HKK := hid hkk
      clear hkk
      have i1 : (0 : Int) ≤ (j : Int) := by omega
      have i2 : (j : Int) < (l.length : Int) := by omega
      have i3 : (j : Int) ≤ (l.length : Int) := by omega
      simp only [Option.isSome_some]
      go_wp2_with fail
      refine (expired_walk x now _).mono ?_
      rintro e w3 ⟨rfl, g3⟩
      have F3 := hid (F2.out.call g3)
      have R3 := hid (Sl.kn HR.out F3.out.g)
      clear g3 d0 d1 d2 d3 c0 c1
      by_cases hxt : x.till ≤ now
      · have dx : decide (x.till ≤ now) = true := decide_eq_true hxt
        have HXT := hid hxt
        clear hxt
        have hr : r = (.zero, false) := HRR.out.trans (fnd_exp HOK.out HLK.out (by have := HXT.out; omega))
        have HE := hid hr
        clear hr
        have a0 : w3.cell? ⟨w.heap.size + 1, 0, none⟩ = some (.int .i64 0) := by rw [cell_of_row _ _ _ _ _ _ F3.out.b1]; rfl
        have f0 : w3.frozen? ⟨w.heap.size + 1, 0, none⟩ = false := frozen_of_row _ _ _ _ _ F3.out.b1
        have a1 : w3.cell? ⟨w.heap.size + 1, 1, none⟩ = some (.int .i64 0) := by rw [cell_of_row _ _ _ _ _ _ F3.out.b1]; rfl
        have f1 : w3.frozen? ⟨w.heap.size + 1, 1, none⟩ = false := frozen_of_row _ _ _ _ _ F3.out.b1
        have a2 : w3.cell? ⟨w.heap.size + 1, 2, none⟩ = some (.int .i64 0) := by rw [cell_of_row _ _ _ _ _ _ F3.out.b1]; rfl
        have f2 : w3.frozen? ⟨w.heap.size + 1, 2, none⟩ = false := frozen_of_row _ _ _ _ _ F3.out.b1
        have a3 : w3.cell? ⟨w.heap.size + 1, 3, none⟩ = some (.int .i64 0) := by rw [cell_of_row _ _ _ _ _ _ F3.out.b1]; rfl
        have f3 : w3.frozen? ⟨w.heap.size + 1, 3, none⟩ = false := frozen_of_row _ _ _ _ _ F3.out.b1
        have a4 : w3.cell? ⟨w.heap.size + 1 + 1, 0, none⟩ = some (.bool false) := by rw [cell_of_row _ _ _ _ _ _ F3.out.b2]; rfl
        have f4 : w3.frozen? ⟨w.heap.size + 1 + 1, 0, none⟩ = false := frozen_of_row _ _ _ _ _ F3.out.b2
        go_wp2
        refine leaves_cons (f := 38) (args := #[.pointer (some ⟨w.heap.size + 1, 0, none⟩), .pointer (some ⟨w.heap.size + 1 + 1, 0, none⟩)]) (by simp) (by simp [go_sem]) ?_
        refine (recFind_walk _ _ _).mono ?_
        rintro e u' w'' ⟨rfl, rfl, rfl⟩
        have FZ := EF.fin38 F3.out (.int .i64 0) (.int .i64 0) (.int .i64 0) (.int .i64 0) (.bool false)
        exact ⟨_, results2 rfl rfl rfl (tyL Ls.zero) (tyB false) FZ.b1 FZ.b2, by rw [HE.out]; exact ⟨rfl, FZ.g⟩⟩
      · have dx : decide (x.till ≤ now) = false := decide_eq_false hxt
        have HXT := hid (show now < x.till by omega)
        clear hxt
        have hr : r = (x, true) := HRR.out.trans (fnd_ok HOK.out HLK.out HXT.out)
        have HE := hid hr
        clear hr
        have c0 : w3.cell? ⟨w.heap.size, 0, none⟩ = some (.int .i64 next) := by rw [cell_of_row _ _ _ _ _ _ F3.out.b0]; rfl
        have c1 : w3.cell? ⟨w.heap.size, 1, none⟩ = some (.slice (some ⟨b, off, none⟩) l.length cap) := by rw [cell_of_row _ _ _ _ _ _ F3.out.b0]; rfl
        obtain ⟨d0, d1, d2, d3⟩ := Rd.four R3.out j hk
        rw [HX.out] at d0 d1 d2 d3
        have a0 : w3.cell? ⟨w.heap.size + 1, 0, none⟩ = some (.int .i64 0) := by rw [cell_of_row _ _ _ _ _ _ F3.out.b1]; rfl
        have f0 : w3.frozen? ⟨w.heap.size + 1, 0, none⟩ = false := frozen_of_row _ _ _ _ _ F3.out.b1
        have a1 : w3.cell? ⟨w.heap.size + 1, 1, none⟩ = some (.int .i64 0) := by rw [cell_of_row _ _ _ _ _ _ F3.out.b1]; rfl
        have f1 : w3.frozen? ⟨w.heap.size + 1, 1, none⟩ = false := frozen_of_row _ _ _ _ _ F3.out.b1
        have a2 : w3.cell? ⟨w.heap.size + 1, 2, none⟩ = some (.int .i64 0) := by rw [cell_of_row _ _ _ _ _ _ F3.out.b1]; rfl
        have f2 : w3.frozen? ⟨w.heap.size + 1, 2, none⟩ = false := frozen_of_row _ _ _ _ _ F3.out.b1
        have a3 : w3.cell? ⟨w.heap.size + 1, 3, none⟩ = some (.int .i64 0) := by rw [cell_of_row _ _ _ _ _ _ F3.out.b1]; rfl
        have f3 : w3.frozen? ⟨w.heap.size + 1, 3, none⟩ = false := frozen_of_row _ _ _ _ _ F3.out.b1
        have a4 : w3.cell? ⟨w.heap.size + 1 + 1, 0, none⟩ = some (.bool false) := by rw [cell_of_row _ _ _ _ _ _ F3.out.b2]; rfl
        have f4 : w3.frozen? ⟨w.heap.size + 1 + 1, 0, none⟩ = false := frozen_of_row _ _ _ _ _ F3.out.b2
        have hne1 : b ≠ w.heap.size + 1 := by
          have hb : w.cell? ⟨b, off + j * 4, none⟩ = some (.int .i64 (l.getD j Ls.zero).name) := (Rd.four HR.out j hk).1
          have := block_lt_of_cell hb
          simp only at this
          omega
        go_wp2_with fail
        refine leaves_cons (f := 38) (args := #[.pointer (some ⟨w.heap.size + 1, 0, none⟩), .pointer (some ⟨w.heap.size + 1 + 1, 0, none⟩)]) (by simp) (by simp [go_sem]) ?_
        refine (recFind_walk _ _ _).mono ?_
        rintro e u' w'' ⟨rfl, rfl, rfl⟩
        have FZ := EF.fin38 F3.out (.int .i64 x.name) (.int .i64 x.holder) (.int .i64 x.token) (.int .i64 x.till) (.bool true)
        exact ⟨_, results2 rfl rfl rfl (tyL x) (tyB true) FZ.b1 FZ.b2, by rw [HE.out]; exact ⟨rfl, FZ.g⟩⟩
end Go.Proofs.Ytafippjpaakonaa
