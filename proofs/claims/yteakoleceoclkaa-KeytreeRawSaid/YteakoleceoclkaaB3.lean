/- More laws at single operations. (printed by mk.py) -/
import Derived.Test.YteakoleceoclkaaB2
import Derived.Deep.RegionLaw
namespace Go.Proofs.Yteakoleceoclkaa
open Go.RowKit
set_option linter.unusedVariables false
theorem enter_of {P : Program} {f : Nat} {fn : Func} {c : Code} (hf : P.funcs[f]? = some fn) (hname : (fn.name == "runtime.NumGoroutine") = false) (hb : fn.body = some c) :
    ∀ (av : Array Value) (w : World), ((Deferred.ofValue (.func (.func f) #[] #[]) av).run P w).andThen (fun a w' => (invoke a.target a.args).run P w') = .ok (.enter f av) w := by
  intro av w
  have h1 : fn.name ≠ "runtime.NumGoroutine" := by simpa using hname
  simp [Deferred.ofValue, invoke, callFunc, hf, h1, hb]
/-- append of cells that were just laid in a new block, its number as the frame shows it -/
theorem wpList_pushH {P : Program} {t e : TypeId} {z : Value} {size bytes : Nat} (E : ET P t e z size bytes) {w : World} {ops : Array Oper} {rest : List Oper} {o : Oper} {a : Act} {Q : Exit → Act → World → Prop}
    (hgd : o.guard = none) (s x : Operand) (ho : o.op = .call { callee := .builtin .append, args := #[s, x], argTypes := #[t, t] })
    (v : Value) (n : Nat) (xs : List Value) (hs : a.eval s = v) (hown : Own w e size v n xs)
    (c : List Value) (m H : Nat) (hH : H = w.heap.size) (hx : a.eval x = .slice (some ⟨H, 0, none⟩) m m) (hl : c.length = m * size) (h1 : c.all Value.oneCell' = true)
    (h63 : n + m ≤ 1099511627776)
    (h : ∀ v' w', Own w' e size v' (n + m) (xs ++ c) → Step w v w' v' → wpList P ops Q rest (a.put o.dst v') w') :
    wpList P ops Q (o :: rest) a (w.alloc (.cells c.toArray e)) := by
  subst hH
  exact wpList_push E hgd s x ho v n xs hs hown c m hx hl h1 h63 h
/-- append of cells that were just laid in a new block, at a step of a region that draws -/
theorem step_pushS {P : Program} {t e : TypeId} {z : Value} {size bytes : Nat} (E : ET P t e z size bytes) {w : World} {ops : Array Oper} {o : Oper} {a : Act} {K : Act → World → Prop} {Q : Exit → Act → World → Prop} {El : Prop}
    (hgd : o.guard = none) (s x : Operand) (ho : o.op = .call { callee := .builtin .append, args := #[s, x], argTypes := #[t, t] })
    (v : Value) (n : Nat) (xs : List Value) (hs : a.eval s = v)
    (c : List Value) (m H : Nat) (hown : Own (w.alloc (.cells c.toArray e)) e size v n xs) (hH : H = w.heap.size) (hx : a.eval x = .slice (some ⟨H, 0, none⟩) m m) (hl : c.length = m * size) (h1 : c.all Value.oneCell' = true)
    (h63 : n + m ≤ 1099511627776)
    (h : ∀ ad cap w', Own w' e size (.slice ad (n + m) cap) (n + m) (xs ++ c) → Step (w.alloc (.cells c.toArray e)) v w' (.slice ad (n + m) cap) → K (a.put o.dst (.slice ad (n + m) cap)) w') :
    if Region.wanted o (yielded ops a.tmps) = true then Oper.wp P o a (w.alloc (.cells c.toArray e)) K Q else El := by
  subst hH
  rw [if_pos (by simp [Region.wanted, hgd])]
  have hsl : Sl (w.alloc (.cells c.toArray e)) size (.slice (some ⟨w.heap.size, 0, none⟩) m m) m c := ⟨hl, some ⟨w.heap.size, 0, none⟩, m, rfl, Nat.le_refl _, by unfold maxLen; omega, fun h => (by cases h), fun ad had => by
    obtain rfl := Option.some.inj had
    refine ⟨rfl, fun j u hu => ?_⟩
    rw [Nat.zero_add, World.cell?_alloc_at _ _ _ _ rfl]
    simpa using hu⟩
  obtain ⟨v', w', hr, h2, h3⟩ := run_app E o.type hown hsl h1 h63
  unfold Oper.wp execOp
  simp only [ho, resolve, invoke, builtin, Sem.run_bind, Sem.run_pure, Result.andThen_ok, List.map_toArray, List.map_cons, List.map_nil, hs, hx, hr]
  obtain ⟨_, ad, cap, he, _⟩ := Sl.of_own h2
  subst he
  exact h ad cap w' h2 h3
/-- a call of a function of the program, at a step of a region that draws -/
theorem step_callS {P : Program} {w : World} {ops : Array Oper} {o : Oper} {a : Act} {K : Act → World → Prop} {Q : Exit → Act → World → Prop} {El : Prop} {R : Ending → World → Prop}
    (hgd : o.guard = none) (f : Nat) (args : Array Operand) (tys : Array TypeId) (ho : o.op = .call { callee := .value (.func f), args := args, argTypes := tys })
    (hen : ∀ (av : Array Value) w, ((Deferred.ofValue (.func (.func f) #[] #[]) av).run P w).andThen (fun a w' => (invoke a.target a.args).run P w') = .ok (.enter f av) w)
    (av : Array Value) (hav : args.map a.eval = av) (hc : Calls P f av w R) (h : ∀ e w', R e w' → ∃ v, e = .returned v ∧ K (a.put o.dst v) w') :
    if Region.wanted o (yielded ops a.tmps) = true then Oper.wp P o a w K Q else El := by
  rw [if_pos (by simp [Region.wanted, hgd])]
  have hr : (execOp a.eval o).run P w = .ok (.enter f av) w := by
    subst hav
    simp only [execOp, ho, resolve, Act.eval, Sem.run_bind]
    exact hen (args.map a.eval) w
  unfold Oper.wp
  rw [hr, Oper.upon_enter]
  refine hc.mono ?_
  intro e w' hR
  obtain ⟨v, rfl, hk⟩ := h e w' hR
  exact hk
/-- append, at a step of a region that draws -/
theorem step_appS {P : Program} {t e : TypeId} {z : Value} {size bytes : Nat} (E : ET P t e z size bytes) {w : World} {ops : Array Oper} {o : Oper} {a : Act} {K : Act → World → Prop} {Q : Exit → Act → World → Prop} {El : Prop}
    (hgd : o.guard = none) (s x : Operand) (ho : o.op = .call { callee := .builtin .append, args := #[s, x], argTypes := #[t, t] })
    (v : Value) (n : Nat) (xs : List Value) (hs : a.eval s = v) (hown : Own w e size v n xs)
    (sv : Value) (m : Nat) (news : List Value) (hx : a.eval x = sv) (hsl : Sl w size sv m news) (h1 : news.all Value.oneCell' = true) (h63 : n + m ≤ 1099511627776)
    (h : ∀ v' w', Own w' e size v' (n + m) (xs ++ news) → Step w v w' v' → K (a.put o.dst v') w') :
    if Region.wanted o (yielded ops a.tmps) = true then Oper.wp P o a w K Q else El := by
  rw [if_pos (by simp [Region.wanted, hgd])]
  obtain ⟨v', w', hr, h2, h3⟩ := run_app E o.type hown hsl h1 h63
  unfold Oper.wp execOp
  simp only [ho, resolve, invoke, builtin, Sem.run_bind, Sem.run_pure, Result.andThen_ok, List.map_toArray, List.map_cons, List.map_nil, hs, hx, hr]
  exact h v' w' h2 h3
end Go.Proofs.Yteakoleceoclkaa
