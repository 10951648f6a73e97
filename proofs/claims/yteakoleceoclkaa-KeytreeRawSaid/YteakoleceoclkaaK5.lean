/- Key trees: leaving a function that ranges over an iterator; small functions. -/
import Derived.Test.YteakoleceoclkaaK4
import Derived.RecoverIn
import Derived.DefersIn
namespace Go.Proofs.Yteakoleceoclkaa
open Go.RowKit Go.Shelf
set_option linter.unusedSimpArgs false
set_option linter.unusedVariables false
attribute [local go_sem] Oper.semAt_some

section
variable {P : Program} {n : Nat}
/-- the mark is struck: no round deferred anything -/
theorem leavesM_mark {fn : Func} {tmps : Array Value} {R : Ending → World → Prop} {D : Nat} {ds : List Deferred} {w : World} (hK : w.heap[D]? = some (.deferred (some [])))
    (h : LeavesInM Fence.wide n P fn tmps R ds .returning (w.putObj D (.deferred none))) : LeavesInM Fence.wide n P fn tmps R ({ target := .collected D, args := #[] } :: ds) .returning w :=
  ⟨by simp, .inl ⟨_, _, rfl, run_takeDeferred hK, h⟩⟩
/-- a deferred function -/
theorem leavesM_fn {fn : Func} {tmps : Array Value} {R : Ending → World → Prop} {fv : Fn} {cap dargs : Array Value} {ds : List Deferred} {w : World} {f : FuncId} {args : Array Value} (hi : (invoke (.fn fv cap) dargs).run P w = .ok (.enter f args) w)
    (h : CallsDIn Fence.wide (n - 1) P f args .returning w fun e u' w' => (∃ v, e = .returned v) ∧ u' = .returning ∧ LeavesInM Fence.wide n P fn tmps R ds .returning w') :
    LeavesInM Fence.wide n P fn tmps R ({ target := .fn fv cap, args := dargs } :: ds) .returning w :=
  ⟨by simp, .inr ⟨fun h => (by simp [Fence.wide] at h), fv, cap, f, args, rfl, hi, fun _ _ => trivial, h.mono fun e u' w' ⟨⟨v, hv⟩, hu, hl⟩ => by subst hv hu; exact hl⟩⟩
theorem leavesM_nil {fn : Func} {tmps : Array Value} {R : Ending → World → Prop} {w : World} {v : Value} (hr : (results fn tmps).run P w = .ok v w) (h : R (.returned v) w) : LeavesInM Fence.wide n P fn tmps R [] .returning w :=
  ⟨v, hr, h⟩
end
set_option maxRecDepth 100000 in
theorem recValid_walk (n : Nat) (w : World) : CallsDIn Fence.wide n Try.prog 64 #[] .returning w fun e u' w' => e = .returned (.tuple #[]) ∧ u' = .returning ∧ w' = w := by
  refine callsDIn_of_wpSIn Try.func64 rfl trivial fun c₀ cs hu => ?_
  apply wpSIn_region
  simp [wpOpsSIn, go_sem, recoverD, hu, Try.ntmps64]
  cases c₀
  simp_all [bodyPostS, results, Try.results64]
set_option maxRecDepth 100000 in
theorem recGaps_walk (n : Nat) (w : World) : CallsDIn Fence.wide n Try.prog 65 #[] .returning w fun e u' w' => e = .returned (.tuple #[]) ∧ u' = .returning ∧ w' = w := by
  refine callsDIn_of_wpSIn Try.func65 rfl trivial fun c₀ cs hu => ?_
  apply wpSIn_region
  simp [wpOpsSIn, go_sem, recoverD, hu, Try.ntmps65]
  cases c₀
  simp_all [bodyPostS, results, Try.results65]
set_option maxRecDepth 100000 in
theorem recLeaf_walk (n : Nat) (p q : Value) (w : World) : CallsDIn Fence.wide n Try.prog 52 #[p, q] .returning w fun e u' w' => e = .returned (.tuple #[]) ∧ u' = .returning ∧ w' = w := by
  refine callsDIn_of_wpSIn Try.func52 rfl trivial fun c₀ cs hu => ?_
  apply wpSIn_seq
  apply wpSIn_region
  simp [wpOpsSIn, go_sem, recoverD, hu, Try.ntmps52, Exit.thenS]
  refine wpSIn_cond (t := false) (by simp [Act.eval, Array.replicate]) ?_
  simp only [Bool.false_eq_true, if_false]
  refine wpSIn_of_wpIn rfl (wpIn_skip ?_)
  cases c₀
  simp_all [bodyPostS, results, Try.results52]
set_option maxRecDepth 100000 in
theorem recPunct_walk (n : Nat) (p q : Value) (w : World) : CallsDIn Fence.wide n Try.prog 61 #[p, q] .returning w fun e u' w' => e = .returned (.tuple #[]) ∧ u' = .returning ∧ w' = w := by
  refine callsDIn_of_wpSIn Try.func61 rfl trivial fun c₀ cs hu => ?_
  apply wpSIn_seq
  apply wpSIn_region
  simp [wpOpsSIn, go_sem, recoverD, hu, Try.ntmps61, Exit.thenS]
  refine wpSIn_cond (t := false) (by simp [Act.eval, Array.replicate]) ?_
  simp only [Bool.false_eq_true, if_false]
  refine wpSIn_of_wpIn rfl (wpIn_skip ?_)
  cases c₀
  simp_all [bodyPostS, results, Try.results61]
/-- a tree as a value -/
def tval (s : Value) : Value := .agg #[s]
set_option maxRecDepth 100000 in
theorem walk_walk (ao : Option Addr) (n cap : Nat) (w : World) : Calls Try.prog 54 #[.agg #[.slice ao n cap]] w fun e w' => e = .returned (.func (.func 84) #[] #[.pointer (some ⟨w.heap.size, 0, none⟩)]) ∧ w' = w.alloc (.cells #[.slice ao n cap] 34) := by
  have hmf : ∀ (fn : Fn) (first cap : Array Value) (w : World), (Instr.makeFunc fn first cap).run Try.prog w = .ok (.func fn first cap) w := fun _ _ _ _ => rfl
  go_enter Try.func54, Try.ntmps54
  go_wp2
  go_ret
  exact ⟨rfl, rfl⟩
set_option maxRecDepth 100000 in
theorem contains_walk (a b x : Int) (w : World) : Calls Try.prog 55 #[sval2 (a, b), .int .i64 x] w fun e w' => e = .returned (.bool (decide (a ≤ x) && decide (x < b))) ∧ w.grownBy w' none := by
  unfold sval2
  simp only
  by_cases h1 : a ≤ x
  · have t1 : decide (a ≤ x) = true := decide_eq_true h1
    go_enter Try.func55, Try.ntmps55
    go_wp2
    go_ret
    exact ⟨by rw [t1]; rfl, World.grownBy_alloc _ _ _⟩
  · have t1 : decide (a ≤ x) = false := decide_eq_false h1
    go_enter Try.func55, Try.ntmps55
    go_wp2
    go_ret
    exact ⟨rfl, World.grownBy_alloc _ _ _⟩
def isAddr (a : Int) : Bool := decide (0 ≤ a) && decide (a < 17179869184)
set_option maxRecDepth 100000 in
theorem isAddress_walk (a : Int) (w : World) : Calls Try.prog 53 #[.int .i64 a] w fun e w' => e = .returned (.bool (isAddr a)) ∧ w' = w := by
  unfold isAddr
  by_cases h1 : 0 ≤ a
  · have t1 : decide (0 ≤ a) = true := decide_eq_true h1
    go_enter Try.func53, Try.ntmps53
    go_wp2
    go_ret
    exact ⟨by rw [t1]; rfl, rfl⟩
  · have t1 : decide (0 ≤ a) = false := decide_eq_false h1
    go_enter Try.func53, Try.ntmps53
    go_wp2
    go_ret
    exact ⟨rfl, rfl⟩
end Go.Proofs.Yteakoleceoclkaa
