/- A region that draws its order: reads and calls that make memory ahead, a tail in one forced order behind them. -/
import Derived.Test.YteakoleceoclkaaQ
import Derived.Deep.QuietTactic
import Derived.BigQuiet
namespace Go.Proofs.Yteakoleceoclkaa
open Go.RowKit
set_option linter.unusedSimpArgs false
set_option linter.unusedVariables false

/-- the worlds that have only grown -/
def Gw (w : World) : Type := { w' : World // w.grownBy w' none }
def Gw.val {w : World} (s : Gw w) : World := s.1
theorem Gw.g {w : World} (s : Gw w) : w.grownBy s.val none := s.2
instance (w : World) : Nonempty (Gw w) := ⟨⟨w, World.grownBy.refl w none⟩⟩
theorem Gw.cell {w : World} (s : Gw w) {a : Addr} {v : Value} (h : w.cell? a = some v) : s.val.cell? a = some v := s.g.cell h (by simp)
theorem Calls.grown_of {P : Program} {f : FuncId} {args : Array Value} {w : World} {s : Gw w} {v : Value}
    (h : Calls P f args s.val fun e w' => e = .returned v ∧ s.val.grownBy w' none) : Calls P f args s.val fun e w'' => e = .returned v ∧ ∃ s' : Gw w, w'' = s'.val :=
  h.mono fun _ w'' ⟨he, hg⟩ => ⟨he, ⟨w'', grown_trans s.g hg⟩, rfl⟩
theorem Calls.grown_of_same {P : Program} {f : FuncId} {args : Array Value} {w : World} {s : Gw w} {v : Value}
    (h : Calls P f args s.val fun e w' => e = .returned v ∧ w' = s.val) : Calls P f args s.val fun e w'' => e = .returned v ∧ ∃ s' : Gw w, w'' = s'.val :=
  h.mono fun _ w'' ⟨he, hg⟩ => ⟨he, s, hg⟩
/-- a load of a whole value among quiet operations -/
theorem wpQuiet_load {P : Program} {ops : Array Oper} {C : World → Prop} {Q : Act → Prop} {a : Act} {o : Oper} {rest : List Oper} (hgd : o.guard = none) (T : TypeId) (x : Operand) (ho : o.op = .load T x) {p v : Value} (hx : a.eval x = p)
    (hr : ∀ w, C w → (Instr.loadAt T p).run P w = .ok v w) (h : wpQuiet P ops C Q rest (a.put o.dst v)) : wpQuiet P ops C Q (o :: rest) a := by
  unfold wpQuiet
  have hw : Region.wanted o (yielded ops a.tmps) = true := by simp [Region.wanted, hgd]
  rw [if_pos hw]
  refine ⟨v, fun w hC => ?_, h⟩
  unfold Oper.quietAt execOp
  simp only [ho, hx, Sem.run_bind, Sem.run_pure, Result.andThen_ok, hr w hC, Oper.quietUpon]
  exact ⟨trivial, trivial⟩
theorem wpQuiet_build {P : Program} {ops : Array Oper} {C : World → Prop} {Q : Act → Prop} {a : Act} {o : Oper} {rest : List Oper} (hgd : o.guard = none) (t : TypeId) (parts : Array (Nat × Operand)) (ho : o.op = .build t parts)
    (vs : Array (Nat × Value)) (hv : (parts.map fun (i, x) => (i, a.eval x)) = vs) {v : Value}
    (hr : ∀ w, (Instr.build t vs).run P w = .ok v w) (h : wpQuiet P ops C Q rest (a.put o.dst v)) : wpQuiet P ops C Q (o :: rest) a := by
  unfold wpQuiet
  have hw : Region.wanted o (yielded ops a.tmps) = true := by simp [Region.wanted, hgd]
  rw [if_pos hw]
  refine ⟨v, fun w _ => ?_, h⟩
  unfold Oper.quietAt execOp
  simp only [ho, hv, Sem.run_bind, Sem.run_pure, Result.andThen_ok, hr w, Oper.quietUpon]
  exact ⟨trivial, trivial⟩
section
variable {P : Program}
theorem wp_region_grown_tail {id : Nat} {Q : Exit → Act → World → Prop} {a : Act} {w : World} {l : List Oper} (n : Nat) (hm : P.follows .mixedOrders = true) (hB : Region.lexTailB .any l.toArray n = true)
    (h : wpQuiet P l.toArray (fun w' => ∃ s : Gw w, w' = s.val) (fun a' => ∀ w', (∃ s : Gw w, w' = s.val) → wpList P l.toArray Q (l.drop n) a' w') (l.take n) a) : (Code.region id l.toArray true).wp P Q a w := by
  simp only [Region.lexTailB, Bool.and_eq_true, decide_eq_true_eq] at hB
  obtain ⟨⟨⟨⟨hsel, hn⟩, hs⟩, hc⟩, hlex⟩ := hB
  have hn' : n < l.length := by simpa using hn
  have htl : (l.take n).length = n := by simp; omega
  have hdl : (l.drop n).length = l.toArray.size - n := by simp
  have inv0 : HeadInv .any l.toArray n (Array.replicate l.toArray.size false) :=
    ⟨by simp, fun j oj _ hl => (by rw [getD_replicate_false] at hl; cases hl), fun t _ ht => getD_in (by simpa using ht) (getD_replicate_false _ _)⟩
  have H := wpHeadQ_lex (md := .any) (g := l.toArray.size - n) hsel hs hc hn (l.take n) 0 _ a (fun j hj => by
    have hj' : j < n := by rw [htl] at hj; exact hj
    simp [hj']) (by simpa using htl) inv0 (by rw [htl]; exact hlex) h
  refine wp_region_any hm ?_
  have := wpAny_of_headQ (Q' := Q) (g := l.toArray.size - n) (fun listed a' w' hw' hL => by
    have := wpAny_of_seq (md := .any) (Q' := Q) (l.drop n) n listed a' w' (fun j => by simp [List.getElem?_drop]) (by rw [hdl]; exact hL.1) (hL.2 w' hw')
    rwa [hdl] at this) _ _ _ { w with drawn := w.drawn + 1 } ⟨⟨_, grown_drew w⟩, rfl⟩ H
  rw [htl, show n + (l.toArray.size - n) = l.toArray.size by omega] at this
  exact this
theorem wp_region_grown {id : Nat} {Q : Exit → Act → World → Prop} {a : Act} {w : World} {l : List Oper} (hm : P.follows .mixedOrders = true) (hB : Region.lexB .any l.toArray = true)
    (h : wpQuiet P l.toArray (fun w' => ∃ s : Gw w, w' = s.val) (fun a' => ∀ w', (∃ s : Gw w, w' = s.val) → Q .normal a' w') l a) : (Code.region id l.toArray true).wp P Q a w :=
  wp_region_quiet (C := fun w' => ∃ s : Gw w, w' = s.val) hm hB ⟨⟨_, grown_drew w⟩, rfl⟩ (by simpa using h)
end
end Go.Proofs.Yteakoleceoclkaa
