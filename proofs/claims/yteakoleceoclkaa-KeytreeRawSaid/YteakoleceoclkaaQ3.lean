/- The body of a round, region by region, by the laws of plain regions. -/
import Derived.Test.YteakoleceoclkaaQ2
import Derived.RangeFuncNested
import Derived.RangeFuncBound
import Derived.RangeFuncCalls
import Derived.RangeFuncLeaves
import Derived.OrdersIn
import Derived.TacticsIn
namespace Go.Proofs.Yteakoleceoclkaa
open Go.RowKit
set_option linter.unusedSimpArgs false
set_option linter.unusedVariables false

/-- no fence but for the round -/
abbrev Wd (ro : Option Nat) : Fence := { Fence.wide with round := ro }
section
variable {P : Program} {Q : Exit → Act → World → Prop} {ops : Array Oper} {ro : Option Nat} {n : Nat}
theorem room_wd (ro : Option Nat) (k : Nat) : (Wd ro).room k := fun _ h => by simp [Fence.wide] at h
theorem rows_in {row : String} {args : Array Value} {w : World} {R : Value → World → Prop} (h : Rows P row args w R) : RowsIn (Wd ro) n P row args w R :=
  fun c cs _ => let ⟨v, w', r, s⟩ := h c cs; ⟨v, w', r, stepsIn_wide.2 s⟩
theorem oper_in {o : Oper} {a : Act} {w : World} {K : Act → World → Prop} (hd : ∀ c, o.op ≠ .defer c) (h : o.wp P a w K Q) : o.wpIn (Wd ro) n P a w K Q := by
  refine ⟨fun _ _ => trivial, ?_⟩
  rw [Oper.semAt_eq _ _ _ hd]
  unfold Oper.wp at h
  generalize (execOp a.eval o).run P w = r at *
  cases r with
  | ok x w' =>
    cases x <;> simp only [Oper.upon] at h <;> simp only [Oper.uponIn]
    case value => exact h
    case skip => exact h
    case defer => exact h
    case enter => exact ⟨fun h => (by simp [Fence.wide] at h), callsIn_wide.2 h⟩
    case row => exact ⟨fun h => (by simp [Fence.wide] at h), rows_in h⟩
  | halt x w' => cases x <;> simp only [Oper.upon] at h <;> simp only [Oper.uponIn] <;> exact h
def noDefer (l : List Oper) : Bool := l.all fun o => match o.op with | .defer _ => false | _ => true
theorem noDefer_spec {l : List Oper} (h : noDefer l = true) {o : Oper} (ho : o ∈ l) : ∀ c, o.op ≠ .defer c := by
  intro c hc
  have := List.all_eq_true.1 h o ho
  simp [hc] at this
theorem wpList_in (hout : ¬ LetsOut Q) : ∀ (l : List Oper) (a : Act) (w : World), noDefer l = true → wpList P ops Q l a w → wpListIn (Wd ro) n P ops Q l a w
  | [], _, _, _, h => h
  | o :: rest, a, w, hd, h => by
    have hd1 := noDefer_spec hd (List.mem_cons_self ..)
    have hd2 : noDefer rest = true := by unfold noDefer at *; rw [List.all_cons, Bool.and_eq_true] at hd; exact hd.2
    unfold wpListIn
    unfold wpList at h
    split
    · rename_i hw
      rw [if_pos hw] at h
      rcases h with h | ⟨_, h⟩
      · exact Oper.wpIn_mono (fun a w h => wpList_in hout rest a w hd2 h) (oper_in hd1 h)
      · exact absurd h hout
    · rename_i hw
      rw [if_neg hw] at h
      exact ⟨fun _ _ => trivial, wpList_in hout rest _ _ hd2 h⟩
theorem wpOp_in (hout : ¬ LetsOut Q) {i : Nat} {K : Act → World → Prop} {a : Act} {w : World} (hd : noDefer ops.toList = true) (h : wpOp P ops Q i K a w) : wpOpIn (Wd ro) n P ops Q i K a w := by
  unfold wpOpIn
  unfold wpOp at h
  split
  · rename_i ho; simp only [ho] at h; exact h
  · rename_i o ho
    simp only [ho] at h
    have hm : o ∈ ops.toList := by
      have := Array.mem_of_getElem? ho
      simpa using this
    split
    · rename_i hw
      simp only [hw, if_true] at h
      rcases h with h | ⟨_, h⟩
      · exact oper_in (noDefer_spec hd hm) h
      · exact absurd h hout
    · rename_i hw
      simp only [hw] at h
      exact ⟨fun _ _ => trivial, h⟩
theorem wpAny_in (hout : ¬ LetsOut Q) {md : Region.Mode} (hd : noDefer ops.toList = true) : ∀ (fuel : Nat) (listed : Array Bool) (a : Act) (w : World), wpAny P md ops Q fuel listed a w → wpAnyIn (Wd ro) n P md ops Q fuel listed a w
  | 0, _, _, _, h => h
  | fuel + 1, _, _, _, h => ⟨h.1, fun i hi => wpOpIn_mono (fun a w h => wpAny_in hout hd fuel _ a w h) (wpOp_in hout hd (h.2 i hi))⟩
/-- a region in a round -/
theorem region_in {id : Nat} {l : List Oper} {a : Act} {w : World} (hout : ¬ LetsOut Q) (hd : noDefer l = true) (h : wpList P l.toArray Q l a w) : (Code.region id l.toArray false).wpIn (Wd ro) n P Q a w :=
  wpIn_region_lit (wpList_in hout l a w hd h)
/-- a region in a round that draws: quiet operations in whatever order, a tail behind them -/
theorem region_grown_in {id : Nat} {a : Act} {w : World} {l : List Oper} (hout : ¬ LetsOut Q) (hd : noDefer l = true) (k : Nat) (hm : P.follows .mixedOrders = true) (hB : Region.lexTailB .any l.toArray k = true)
    (h : wpQuiet P l.toArray (fun w' => ∃ s : Gw w, w' = s.val) (fun a' => ∀ w', (∃ s : Gw w, w' = s.val) → wpList P l.toArray Q (l.drop k) a' w') (l.take k) a) : (Code.region id l.toArray true).wpIn (Wd ro) n P Q a w := by
  simp only [Region.lexTailB, Bool.and_eq_true, decide_eq_true_eq] at hB
  obtain ⟨⟨⟨⟨hsel, hn⟩, hs⟩, hc⟩, hlex⟩ := hB
  have hn' : k < l.length := by simpa using hn
  have htl : (l.take k).length = k := by simp; omega
  have hdl : (l.drop k).length = l.toArray.size - k := by simp
  have inv0 : HeadInv .any l.toArray k (Array.replicate l.toArray.size false) :=
    ⟨by simp, fun j oj _ hl => (by rw [getD_replicate_false] at hl; cases hl), fun t _ ht => getD_in (by simpa using ht) (getD_replicate_false _ _)⟩
  have H := wpHeadQ_lex (md := .any) (g := l.toArray.size - k) hsel hs hc hn (l.take k) 0 _ a (fun j hj => by
    have hj' : j < k := by rw [htl] at hj; exact hj
    simp [hj']) (by simpa using htl) inv0 (by rw [htl]; exact hlex) h
  refine wpIn_region_any hm (wpAny_in hout (by simpa using hd) _ _ _ _ ?_)
  have := wpAny_of_headQ (Q' := Q) (g := l.toArray.size - k) (fun listed a' w' hw' hL => by
    have := wpAny_of_seq (md := .any) (Q' := Q) (l.drop k) k listed a' w' (fun j => by simp [List.getElem?_drop]) (by rw [hdl]; exact hL.1) (hL.2 w' hw')
    rwa [hdl] at this) _ _ _ { w with drawn := w.drawn + 1 } ⟨⟨_, grown_drew w⟩, rfl⟩ H
  rw [htl, show k + (l.toArray.size - k) = l.toArray.size by omega] at this
  exact this
theorem out_then {K : Act → World → Prop} (h : ¬ LetsOut Q) : ¬ LetsOut (Exit.then K Q) := fun ⟨a, w, hq⟩ => h ⟨a, w, hq⟩
theorem wpIn_seq_k' {x y : Code} {a : Act} {w : World} (h : ∀ K : Act → World → Prop, (∀ a w, y.wpIn (Wd ro) n P Q a w → K a w) → x.wpIn (Wd ro) n P (Exit.then K Q) a w) : (Code.seq x y).wpIn (Wd ro) n P Q a w :=
  wpIn_seq (h _ fun _ _ h => h)
end
end Go.Proofs.Yteakoleceoclkaa
