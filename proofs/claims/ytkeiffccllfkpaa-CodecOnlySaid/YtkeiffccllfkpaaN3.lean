/- Further obligations of the operations of a region that draws. -/
import Derived.Test.YtkeiffccllfkpaaN2
namespace Go.Proofs.Ytkeiffccllfkpaa
open Go.RowKit

theorem Sl.kn {w w' : World} {sz : Nat} {v : Value} {n : Nat} {xs : List Value} (h : Sl w sz v n xs) (hg : w.grownBy w' none) : Sl w' sz v n xs := h.kept hg (by cases v.ownBlock <;> simp)
/-- a slot that reads as n elements of size sz -/
def Sp.slc (sz n : Nat) (xs : List Value) : Sp := ⟨fun w v => Sl w sz v n xs, fun _ _ _ hg h => h.kept hg (by cases Value.ownBlock _ <;> simp)⟩
section
variable {P : Program} {ops : Array Oper} {L : List Sp} {n : Nat} {w0 : World} {o : Oper}
theorem ob_neI {ty ty2 : TypeId} {x y : Operand} {k : IntKind} {a b : Int} {d : Nat} (ho : o.op = .binOp .neq ty x y ty2) (hd : o.dst = some d) (hg : GOK ops L n o.guard) (hx : OpdIs L n x (.int k a)) (hy : OpdIs L n y (.int k b)) (hab : a = b) (hv : ∀ w, At L d w (.bool false)) : Ob P ops L n w0 o :=
  ob_bin ho hd hg hx hy (fun w => by subst hab; simp [eqGuard, binOp_neq]) hv
theorem ob_pickF {x y z : Operand} {v : Value} {d : Nat} (ho : o.op = .pick x y z) (hd : o.dst = some d) (hg : GOK ops L n o.guard) (hx : OpdIs L n x (.bool false)) (hz : OpdIs L n z v) (hv : ∀ w, At L d w v) : Ob P ops L n w0 o := by
  refine ob_run hg fun a w hw hl hsz => ⟨v, ?_, fun d' hd' => ?_⟩
  · have e1 := hx.eval (o := o) (by simp [ho, Op.operands]) hl
    have e2 := hz.eval (o := o) (by simp [ho, Op.operands]) hl
    simp [execOp, ho, e1, e2, asBool]
  · rw [hd] at hd'
    obtain rfl := Option.some.inj hd'
    exact hv w
theorem ob_index {ty : TypeId} {x y : Operand} {d : Nat} {p k v : Value} (ho : o.op = .indexAddr ty x y) (hd : o.dst = some d) (hg : GOK ops L n o.guard) (hx : OpdIs L n x p) (hy : OpdIs L n y k) (hrun : ∀ w, (Instr.indexAt ty p k).run P w = .ok v w) (hv : ∀ w, At L d w v) : Ob P ops L n w0 o := by
  refine ob_run hg fun a w hw hl hsz => ⟨v, ?_, fun d' hd' => ?_⟩
  · have e1 := hx.eval (o := o) (by simp [ho, Op.operands]) hl
    have e2 := hy.eval (o := o) (by simp [ho, Op.operands]) hl
    simp only [execOp, ho, e1, e2, Sem.run_bind, Sem.run_pure, Result.andThen_ok, hrun w]
  · rw [hd] at hd'
    obtain rfl := Option.some.inj hd'
    exact hv w
theorem ob_not {x : Operand} {ty : TypeId} {b : Bool} {d : Nat} (ho : o.op = .unOp .not ty x) (hd : o.dst = some d) (hg : GOK ops L n o.guard) (hx : OpdIs L n x (.bool b)) (hv : ∀ w, At L d w (.bool (!b))) : Ob P ops L n w0 o := by
  refine ob_run hg fun a w hw hl hsz => ⟨.bool (!b), ?_, fun d' hd' => ?_⟩
  · have e1 := hx.eval (o := o) (by simp [ho, Op.operands]) hl
    simp only [execOp, ho, e1]
    simp [Op.unary, go_sem]
  · rw [hd] at hd'
    obtain rfl := Option.some.inj hd'
    exact hv w
/-- a call whose arguments are known by what is told of their slots -/
theorem ob_callF {f : Nat} {d : Nat} {args : Array Operand} {tys : Array TypeId} (ho : o.op = .call { callee := .value (.func f), args := args, argTypes := tys }) (hd : o.dst = some d) (hg : GOK ops L n o.guard)
    (hrun : ∀ (av : Array Value) w, ((Deferred.ofValue (.func (.func f) #[] #[]) av).run P w).andThen (fun a w' => (invoke a.target a.args).run P w') = .ok (.enter f av) w)
    (hc : ∀ (a : Act) w, w0.grownBy w none → (∀ t, Operand.tmp t ∈ args.toList → t < n → At L t w (a.tmps.getD t undef)) → Calls P f (args.toList.map a.eval).toArray w fun e w' => ∃ v, e = .returned v ∧ w.grownBy w' none ∧ At L d w' v) : Ob P ops L n w0 o := by
  intro a w hw hl hsz
  unfold OpSays
  rw [if_pos (hg.wanted hl hsz)]
  have hr : (execOp a.eval o).run P w = .ok (.enter f (args.map a.eval)) w := by
    simp only [execOp, ho, resolve, Act.eval, Sem.run_bind]
    exact hrun (args.map a.eval) w
  rw [hr]
  have hm : args.map a.eval = (args.toList.map a.eval).toArray := by rw [← List.map_toArray]
  rw [hm]
  refine (hc a w hw fun t ht htn => hl t ?_ htn).mono fun e w' ⟨v, he, hg', hv⟩ => ⟨v, he, hg', fun d' hd' => by rw [hd] at hd'; obtain rfl := Option.some.inj hd'; exact hv⟩
  simp only [Oper.looksAt, List.mem_append, List.mem_filterMap]
  exact .inl ⟨.tmp t, by simp [ho, Op.operands, Call.operands]; simpa using ht, rfl⟩
end
theorem val_eq (x : V) (px py : Operand) (w : World) : (do eqGuard .eql 67 px py (vval x) (vval x); binOp .eql 67 (vval x) (vval x) : Sem Value).run Try.prog w = .ok (.bool true) w := by
  unfold vval
  go_simp
theorem val_ne (x : V) (px py : Operand) (w : World) : (do eqGuard .neq 67 px py (vval x) (vval x); binOp .neq 67 (vval x) (vval x) : Sem Value).run Try.prog w = .ok (.bool false) w := by
  unfold vval
  go_simp
end Go.Proofs.Ytkeiffccllfkpaa
