/- SX for key trees: facts on slots that hold trees, gaps, digests. -/
import Derived.Test.YteakoleceoclkaaSX
import Derived.Test.YteakoleceoclkaaMK6
namespace Go.Proofs.Yteakoleceoclkaa
open Go.RowKit
set_option linter.unusedSimpArgs false
set_option linter.unusedVariables false
def Sp.gp (g : List (Int × Int)) : Sp := ⟨fun w v => Sl w 2 v g.length (gcells g), fun _ _ _ hg h => Sl.kn h hg⟩
theorem is_on {P : Program} {f : Nat} {args : Array Value} {w0 : World} {v : Value} (h : ∀ W, w0.grownBy W none → Calls P f args W fun e W' => e = .returned v ∧ W.grownBy W' none) : ∀ W, w0.grownBy W none → Calls P f args W fun e W' => ∃ v', e = .returned v' ∧ W.grownBy W' none ∧ (Sp.is v).on W' v' := fun W g =>
 (h W g).mono fun e W' ⟨h1, h2⟩ => ⟨v, h1, h2, rfl⟩
theorem RdT.off {w w' : World} {s : Value} {l : List Nd} {b : Nat} (h : RdT w s l) (g : w.grownBy w' (some b)) (hb : ∀ k, fpT s k → k ≠ b) : RdT w' s l :=
 ⟨h.1.keptT g fun k hk e => hb k hk (Option.some.inj e).symm, h.2.1, fun k hk => Nat.lt_of_lt_of_le (h.2.2.1 k hk) g.size, h.2.2.2⟩
theorem lenDD {x y : List Nat} (hx : Dg x) (hy : Dg y) : (bv x).length = (bv y).length := by rw [bv_length, bv_length, hx.1, hy.1]
theorem lenD {x : List Nat} (hx : Dg x) : (bv zero32).length = (bv x).length := by rw [bv_length, bv_length, hx.1]; rfl
end Go.Proofs.Yteakoleceoclkaa
