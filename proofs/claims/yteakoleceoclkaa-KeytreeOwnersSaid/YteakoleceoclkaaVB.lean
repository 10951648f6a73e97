/- SX: reads that may come late, beside stores to other blocks; what the reference's functions of vaults hand back. -/
import Derived.Test.YteakoleceoclkaaVA
import Derived.OrdersHeld
namespace Go.Proofs.Yteakoleceoclkaa
open Go.RowKit
set_option linter.unusedSimpArgs false
set_option linter.unusedVariables false
section
variable {P : Program} {ops : Array Oper} {S : World → Prop} {Kt : Act → Prop} {o : Oper} {r : List Oper} {a : Act} {n : Nat} {D : List Deferred} {K : List (Nat × Value)}
end
/-- a tree that Puncture of the reference handed back: its memory is the argument's, or blocks of nodes -/
def TagD (w : World) (s v : Value) : Prop := v.ownBlock = s.ownBlock ∨ Tag w v
def RdTT (w : World) (s v : Value) (l : List Nd) : Prop := RdT w v l ∧ TagD w s v
section
variable {w w' : World} {s v : Value} {l : List Nd}
theorem RdTT.kn (h : RdTT w s v l) (g : w.grownBy w' none) : RdTT w' s v l := ⟨h.1.kn g, h.2.imp id (·.kn g)⟩
theorem RdTT.offR (h : RdTT w s v l) {row : Option Nat} (g : w.grownBy w' row) (hb : ∀ k, fpS v k → row ≠ some k) : RdTT w' s v l := ⟨h.1.offR g hb, h.2.imp id (·.offR g hb)⟩
theorem RdTT.lt (h : RdTT w s v l) : ∀ k, fpS v k → k < w.heap.size := h.1.lt
theorem TagD.fp (h : TagD w s v) {k : Nat} (hk : fpS v k) : fpS s k ∨ TagB w k := h.elim (fun e => .inl (e.symm.trans hk)) fun t => .inr (t k hk)
end
/-! parts of a slice of keys -/
end Go.Proofs.Yteakoleceoclkaa
