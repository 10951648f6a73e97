/- SX: slices of arrays and of slices, calls through a function value. -/
import Derived.Test.YteakoleceoclkaaSF
namespace Go.Proofs.Yteakoleceoclkaa
open Go.RowKit
set_option linter.unusedSimpArgs false
set_option linter.unusedVariables false
section
variable {P : Program} {ops : Array Oper} {L : Nat → Sp} {n : Nat} {w0 : World} {o : Oper}
def OpXo (L : Nat → Sp) (n : Nat) : Option Operand → Option Value → Prop
 | none, none => True
 | some x, some v => OpX L n x v
 | _, _ => False
theorem OpXo.eval {x : Option Operand} {v : Option Value} (h : OpXo L n x v) {a : Act} {w : World} (hx : ∀ y, x = some y → y ∈ o.op.operands.toList) (hl : ∀ t ∈ o.looksAt ops, t < n → (L t).on w (a.tmps.getD t undef)) : x.map a.eval = v := by
 cases x with
 | none => cases v with
   | none => rfl
   | some v => exact h.elim
 | some x => cases v with
   | none => exact h.elim
   | some v => exact congrArg some (OpX.eval (o := o) h (hx x rfl) hl)
theorem ox_slice {t : TypeId} {x : Operand} {lo hi : Option Operand} {d : Nat} {p v : Value} {l u : Option Value} (ho : o.op = .slice t x lo hi none) (hd : o.dst = some d) (hg : GX ops L n o.guard) (hx : OpX L n x p) (hlo : OpXo L n lo l) (hhi : OpXo L n hi u)
   (hr : ∀ w, (Instr.sliceAt t p l u none).run P w = .ok v w) (h : ∀ w, (L d).on w v) : OX P ops L n w0 o :=
 ox_run hg fun a w hw hl hsz => ⟨v, by
   have e1 := hx.eval (o := o) (by simp [ho, Op.operands]) hl
   have e2 := OpXo.eval (o := o) hlo (a := a) (w := w) (fun y hy => by subst hy; simp [ho, Op.operands]) hl
   have e3 := OpXo.eval (o := o) hhi (a := a) (w := w) (fun y hy => by subst hy; simp [ho, Op.operands]) hl
   simp only [execOp, ho, e1, e2, e3, Option.map_none, Sem.run_bind, Sem.run_pure, Result.andThen_ok, hr w], dst_on hd (h w)⟩
def GU (ops : Array Oper) (L : Nat → Sp) (n : Nat) : Option (Nat × Bool) → Prop
 | none => False
 | some (g, b) => ∃ t, (ops[g]?).bind (·.dst) = some t ∧ decide (t < n) = true ∧ ∀ w v, (L t).on w v → v = undef
theorem GU.wanted {o : Oper} {a : Act} {w : World} (h : GU ops L n o.guard) (hl : ∀ t ∈ o.looksAt ops, t < n → (L t).on w (a.tmps.getD t undef)) (hs : a.tmps.size = n) : Region.wanted o (yielded ops a.tmps) = false := by
 unfold Region.wanted
 cases hg : o.guard with
 | none => rw [hg] at h; exact h.elim
 | some p =>
   obtain ⟨g, b⟩ := p
   rw [hg] at h
   obtain ⟨t, ht, htn, hv⟩ := h
   have htn := of_decide_eq_true htn
   have hv := hv w _ (hl t (by simp [Oper.looksAt, hg, ht]) htn)
   have htl : t < a.tmps.size := hs ▸ htn
   rw [Array.getD_eq_getD_getElem?, Array.getElem?_eq_getElem htl, Option.getD_some] at hv
   cases b <;> simp [yielded, ht, Array.getElem?_eq_getElem htl, hv, undef]
theorem ox_callV (S : Sp) (av : List Value) {f d : Nat} {x : Operand} {args : Array Operand} {tys : Array TypeId} (ho : o.op = .call { callee := .value x, args := args, argTypes := tys }) (hd : o.dst = some d) (hg : GX ops L n o.guard) (hx : OpX L n x (.func (.func f) #[] #[]))
   (hρ : OpXs L n args.toList av) (hc : ∀ w, w0.grownBy w none → Calls P f av.toArray w fun e w' => ∃ v, e = .returned v ∧ w.grownBy w' none ∧ S.on w' v) (h : ∀ w v, S.on w v → (L d).on w v)
   (hrun : ∀ (av : Array Value) w, ((Deferred.ofValue (.func (.func f) #[] #[]) av).run P w).andThen (fun a w' => (invoke a.target a.args).run P w') = .ok (.enter f av) w) : OX P ops L n w0 o := by
 intro a w hw hl hsz
 unfold OpSays
 rw [if_pos (hg.wanted hl hsz)]
 have e1 := hx.eval (o := o) (a := a) (w := w) (by simp [ho, Op.operands, Call.operands]) hl
 have hargs : args.map a.eval = av.toArray := by
   have := hρ.eval (o := o) (a := a) (w := w) (fun x hx => by simp only [ho, Op.operands, Call.operands]; simp at hx; simp; exact .inr hx) hl
   rw [← this]
   apply Array.ext'
   simp
 have hr : (execOp a.eval o).run P w = .ok (.enter f av.toArray) w := by
   simp only [execOp, ho, resolve, Sem.run_bind, e1]
   have h1 := hrun (args.map a.eval) w
   rw [hargs] at h1
   first
     | exact h1
     | (rw [hargs]; exact h1)
 rw [hr]
 exact (hc w hw).mono fun e w' ⟨v, he, hg', hs⟩ => ⟨v, he, hg', dst_on hd (h w' v hs)⟩
end
theorem tl_makeFunc {P : Program} {Q : Exit → Act → World → Prop} {ops : Array Oper} {rest : List Oper} {o : Oper} {a : Act} {w : World} {n : Nat} {D : List Deferred} {K : List (Nat × Value)} (sv : Sv n D K a) (hgd : o.guard = none) {d : Nat} {fv : Fn} {caps : Array Operand} {vs : List Value} (ho : o.op = .makeFunc fv #[] caps) (hd : o.dst = some d) (hdn : decide (d < n) = true) (hc : okVs K caps.toList = true) (hvs : evVs K caps.toList = vs)
   (h : ∀ a', Sv n D ((d, .func fv #[] vs.toArray) :: delK d K) a' → wpList P ops Q rest a' w) : wpList P ops Q (o :: rest) a w := by
 refine tl_run sv hgd (v := .func fv #[] vs.toArray) (w' := w) hd hdn ?_ h
 have e : caps.map a.eval = vs.toArray := by
   apply Array.ext'
   rw [Array.toList_map, sv.evs hc, hvs]
 simp only [execOp, ho, Instr.makeFunc, e, Sem.run_bind, Sem.run_pure, Result.andThen_ok, List.map_toArray, List.map_nil]
end Go.Proofs.Yteakoleceoclkaa
