/- The helpers of the laws. (merged by merge.py) -/
import Derived.Test.YteakoleceoclkaaMK5
import Derived.Test.YteakoleceoclkaaMK4
namespace Go.Proofs.Yteakoleceoclkaa

/-! ## K19 -/
section
open Go.RowKit Go.Shelf
set_option linter.unusedSimpArgs false
set_option linter.unusedVariables false
attribute [local go_sem] Oper.semAt_some

end

/-! ## K20 -/
section
open Go.RowKit Go.Shelf
set_option linter.unusedSimpArgs false
set_option linter.unusedVariables false
attribute [local go_sem] Oper.semAt_some

end

/-! ## K21 -/
section
open Go.RowKit Go.Shelf
set_option linter.unusedSimpArgs false
set_option linter.unusedVariables false
attribute [local go_sem] Oper.semAt_some

theorem adr_range (n : Int) : 0 ≤ adr n ∧ adr n < 17179869184 := by
  have e : adr n = IntKind.i64.wrap (((BitVec.ofInt 64 n) &&& (BitVec.ofInt 64 17179869183)).toNat : Int) := rfl
  have h : ((BitVec.ofInt 64 n) &&& (BitVec.ofInt 64 17179869183)).toNat ≤ 17179869183 := by
    rw [BitVec.toNat_and]
    exact Nat.le_trans Nat.and_le_right (by decide)
  rw [e, IntKind.wrap_i64]
  omega
theorem adr_isAddr (n : Int) : isAddr (adr n) = true := isAddr_iff.2 (adr_range n)
theorem Fresh.step {w W W' : World} {v v' : Value} (h : Fresh w W v) (s : Step W v W' v') : Fresh w W' v' := by
  have hb : ∀ k, v.ownBlock = some k → w.heap.size ≤ k := fun k hk => (h.2 k hk).elim (fun h => by simp [nilS, Value.ownBlock] at h) id
  exact Step.fresh (grown_from h.none s.1 hb) fun k hk => (s.2 k hk).elim (hb k) (fun h1 => Nat.le_trans h.none.size h1)
end

/-! ## Q8 -/
section
open Go.RowKit Go.Shelf
set_option linter.unusedSimpArgs false
set_option linter.unusedVariables false

section
variable {P : Program} {ops : Array Oper} {L : List Sp} {n : Nat} {w0 : World} {o : Oper}
theorem run_extract {a : Act} {s i : Nat} {vs : Array Value} {v : Value} (ho : o.op = .extract (.tmp s) i) (hx : a.tmps.getD s undef = .tuple vs) (hi : vs[i]? = some v) (w : World) : (execOp a.eval o).run P w = .ok (.value v) w := by
  have hx' : a.eval (.tmp s) = .tuple vs := hx
  simp only [execOp, ho, hx']
  simp [Instr.extract, hi]
end
/-- its tree -/
def Sp.tree (r : List Nd × Int) : Sp := ⟨fun w v => ∃ ao cap, v = .agg #[.slice ao r.1.length cap] ∧ RdT w (.slice ao r.1.length cap) r.1, fun _ _ _ hg ⟨ao, cap, h1, h2⟩ => ⟨ao, cap, h1, h2.kn hg⟩⟩
end

/-! ## K22 -/
section
open Go.RowKit Go.Shelf
set_option linter.unusedSimpArgs false
set_option linter.unusedVariables false
attribute [local go_sem] Oper.semAt_some

end

end Go.Proofs.Yteakoleceoclkaa
