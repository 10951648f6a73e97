/- The operations of a region that also writes: one law a kind (for region_gen). -/
import Derived.Test.YtkeiffccllfkpaaRegion2
import Derived.Test.YtkeiffccllfkpaaOps
namespace Go.Proofs.Ytkeiffccllfkpaa
open Go.RowKit

def OG (P : Program) (ops : Array Oper) (L : Nat → World → Value → Prop) (J : World → Prop) (D : Nat → World → Prop) (n i : Nat) (o : Oper) : Prop :=
  ∀ (a : Act) w, J w → (∀ t ∈ o.looksAt ops, t < n → L t w (a.tmps.getD t undef)) → a.tmps.size = n →
    OpSays P ops o a w fun v w' => J w' ∧ (∀ t x, L t w x → L t w' x) ∧ (∀ j, j ≠ i → D j w → D j w') ∧ D i w' ∧ ∀ d, o.dst = some d → L d w' v
def OGAll (P : Program) (ops : Array Oper) (L : Nat → World → Value → Prop) (J : World → Prop) (D : Nat → World → Prop) (n : Nat) : Nat → List Oper → Prop
  | _, [] => True
  | i, o :: l => OG P ops L J D n i o ∧ OGAll P ops L J D n (i + 1) l
theorem OGAll.at {P : Program} {ops : Array Oper} {L : Nat → World → Value → Prop} {J : World → Prop} {D : Nat → World → Prop} {n : Nat} : ∀ {l : List Oper} {k : Nat}, OGAll P ops L J D n k l → ∀ (i : Nat) (o : Oper), l[i]? = some o → OG P ops L J D n (k + i) o
  | [], _, _, i, o, hi => by simp at hi
  | x :: l, k, h, 0, o, hi => by simp at hi; subst hi; exact h.1
  | x :: l, k, h, i + 1, o, hi => by
    have := OGAll.at h.2 i o (by simpa using hi)
    rwa [show k + 1 + i = k + (i + 1) by omega] at this
/-- a guard that says yes -/
def GOKG (ops : Array Oper) (L : Nat → World → Value → Prop) (n : Nat) : Option (Nat × Bool) → Prop
  | none => True
  | some (g, b) => ∃ t, (ops[g]?).bind (·.dst) = some t ∧ t < n ∧ ∀ w v, L t w v → v = .bool b
theorem GOKG.wanted {ops : Array Oper} {L : Nat → World → Value → Prop} {n : Nat} {o : Oper} {a : Act} {w : World} (h : GOKG ops L n o.guard) (hl : ∀ t ∈ o.looksAt ops, t < n → L t w (a.tmps.getD t undef)) (hs : a.tmps.size = n) :
    Region.wanted o (yielded ops a.tmps) = true := by
  unfold Region.wanted
  cases hg : o.guard with
  | none => rfl
  | some p =>
    obtain ⟨g, b⟩ := p
    rw [hg] at h
    obtain ⟨t, ht, htn, hv⟩ := h
    have hv := hv w _ (hl t (by simp [Oper.looksAt, hg, ht]) htn)
    have htl : t < a.tmps.size := hs ▸ htn
    rw [Array.getD_eq_getD_getElem?, Array.getElem?_eq_getElem htl, Option.getD_some] at hv
    simp [yielded, ht, Array.getElem?_eq_getElem htl, hv]
section
variable {P : Program} {ops : Array Oper} {L : Nat → World → Value → Prop} {J : World → Prop} {D : Nat → World → Prop} {n i : Nat} {o : Oper}
/-- an operation that changes no memory -/
theorem og_run (hg : GOKG ops L n o.guard) (hD : ∀ w, J w → D i w) (h : ∀ (a : Act) w, J w → (∀ t ∈ o.looksAt ops, t < n → L t w (a.tmps.getD t undef)) → a.tmps.size = n → ∃ v, (execOp a.eval o).run P w = .ok (.value v) w ∧ ∀ d, o.dst = some d → L d w v) : OG P ops L J D n i o := by
  intro a w hw hl hs
  unfold OpSays
  rw [if_pos (hg.wanted hl hs)]
  obtain ⟨v, hr, hv⟩ := h a w hw hl hs
  rw [hr]
  exact ⟨hw, fun _ _ h => h, fun _ _ h => h, hD w hw, hv⟩
/-- the same, its operands known to the letter: the frame F -/
theorem og_exact (F : List Value) (hg : GOKG ops L n o.guard) (hD : ∀ w, J w → D i w) (hsel : ∀ cs b, o.op ≠ .select cs b) (hρ : ∀ t, Operand.tmp t ∈ o.op.operands.toList → t < n ∧ ∀ w v, J w → L t w v → v = F.getD t undef)
    (hrun : ∀ w, J w → ∃ v, (execOp (Act.eval ⟨F.toArray, []⟩) o).run P w = .ok (.value v) w ∧ ∀ d, o.dst = some d → L d w v) : OG P ops L J D n i o := by
  refine og_run hg hD fun a w hw hl hs => ?_
  obtain ⟨v, hr, hv⟩ := hrun w hw
  refine ⟨v, ?_, hv⟩
  rw [execOp_congr (ρ' := Act.eval ⟨F.toArray, []⟩) o hsel ?_]
  · exact hr
  · intro x hx
    cases x with
    | tmp t =>
      have hx' := hρ t (by simpa using hx)
      have := hx'.2 w _ hw (hl t (by simp only [Oper.looksAt, List.mem_append, List.mem_filterMap]; exact .inl ⟨.tmp t, by simpa using hx, rfl⟩) hx'.1)
      simp only [Act.eval]
      rw [this]
      simp [List.getD_eq_getElem?_getD]
    | _ => rfl
/-- an operation that writes and has no value -/
theorem og_skip (hg : GOKG ops L n o.guard) (hd : o.dst = none) (h : ∀ (a : Act) w, J w → (∀ t ∈ o.looksAt ops, t < n → L t w (a.tmps.getD t undef)) → a.tmps.size = n →
    ∃ w', (execOp a.eval o).run P w = .ok .skip w' ∧ J w' ∧ (∀ t x, L t w x → L t w' x) ∧ (∀ j, j ≠ i → D j w → D j w') ∧ D i w') : OG P ops L J D n i o := by
  intro a w hw hl hs
  unfold OpSays
  rw [if_pos (hg.wanted hl hs)]
  obtain ⟨w', hr, h1, h2, h3, h4⟩ := h a w hw hl hs
  rw [hr]
  exact ⟨h1, h2, h3, h4, fun d hd' => by rw [hd] at hd'; cases hd'⟩
/-- a call of a function by its number -/
theorem og_call (f : Nat) (args : Array Operand) (tys : Array TypeId) (ho : o.op = .call { callee := .value (.func f), args := args, argTypes := tys }) (hg : GOKG ops L n o.guard)
    (hrun : ∀ (av : Array Value) w, ((Deferred.ofValue (.func (.func f) #[] #[]) av).run P w).andThen (fun a w' => (invoke a.target a.args).run P w') = .ok (.enter f av) w)
    (hc : ∀ (a : Act) w, J w → (∀ t ∈ o.looksAt ops, t < n → L t w (a.tmps.getD t undef)) → a.tmps.size = n → Calls P f (args.map a.eval) w fun e w' => ∃ v, e = .returned v ∧ J w' ∧ (∀ t x, L t w x → L t w' x) ∧ (∀ j, j ≠ i → D j w → D j w') ∧ D i w' ∧ ∀ d, o.dst = some d → L d w' v) : OG P ops L J D n i o := by
  intro a w hw hl hs
  unfold OpSays
  rw [if_pos (hg.wanted hl hs)]
  have hr : (execOp a.eval o).run P w = .ok (.enter f (args.map a.eval)) w := by
    simp only [execOp, ho, resolve, Act.eval, Sem.run_bind]
    exact hrun (args.map a.eval) w
  rw [hr]
  exact hc a w hw hl hs
end
end Go.Proofs.Ytkeiffccllfkpaa
