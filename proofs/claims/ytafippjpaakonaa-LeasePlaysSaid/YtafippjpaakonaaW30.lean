/- Leases: made, step and awake as laws call them. -/
import Derived.Test.YtafippjpaakonaaPl2
namespace Go.Proofs.Ytafippjpaakonaa
open Go.RowKit
set_option linter.unusedSimpArgs false
set_option linter.unusedVariables false

theorem made_call {l : List Ac} {r : Tb} {s : Value} {w0 w : World} (he : mk l = r) (hA : RdA w0 s l) (hg : w0.grownBy w none) :
    Calls Try.prog 14 #[s] w fun e w' => ∃ ao k cap, e = .returned (.agg #[.int .i64 r.next, .slice ao k cap]) ∧ Hid (Rd w' (.slice ao k cap) r.ls ∧ w0.grownBy w' none) := by
  subst he
  refine (made_walk l s w (Sl.kn hA hg)).mono ?_
  rintro e w' ⟨u, rfl, ho, hf⟩
  obtain ⟨ao, cap, rfl, _, _⟩ := Sl.shape ho
  exact ⟨ao, _, cap, rfl, ho, grown_trans hg hf⟩
theorem step_call {t r : Tb} {a : Ac} {s1 s2 : Value} {w0 w : World} (he : stp t a = r) (hR : Rd w0 s1 t.ls) (hS : Rd w0 s2 t.ls) (hg : w0.grownBy w none) (hn : t.ls.length ≤ 1000000) :
    Calls Try.prog 21 #[.agg #[.int .i64 t.next, s1], .agg #[.int .i64 t.next, s2], .agg #[.int .i64 a.kind, .int .i64 a.name, .int .i64 a.holder, .int .i64 a.token, .int .i64 a.now, .int .i64 a.dur]] w fun e w' =>
      ∃ ao k cap ao2 k2 cap2, e = .returned (.tuple #[.agg #[.int .i64 r.next, .slice ao k cap], .agg #[.int .i64 r.next, .slice ao2 k2 cap2], .bool true]) ∧ Hid (Rd w' (.slice ao k cap) r.ls ∧ Rd w' (.slice ao2 k2 cap2) r.ls ∧ w0.grownBy w' none) := by
  subst he
  refine (step_walk t a s1 s2 w (Sl.kn hR hg) (Sl.kn hS hg) hn).mono ?_
  rintro e w' ⟨u1, u2, rfl, h1, h2, hf⟩
  obtain ⟨ao, cap, rfl, _, _⟩ := Sl.shape h1
  obtain ⟨ao2, cap2, rfl, _, _⟩ := Sl.shape h2
  exact ⟨ao, _, cap, ao2, _, cap2, rfl, h1, h2, grown_trans hg hf⟩
theorem awk_call {w0 w : World} (hg : w0.grownBy w none) : Calls Try.prog 13 #[] w fun e w' => e = .returned (.bool true) ∧ Hid (w0.grownBy w' none) :=
  (awake_walk w).mono fun _ _ h => ⟨h.1, grown_trans hg h.2⟩
end Go.Proofs.Ytafippjpaakonaa
