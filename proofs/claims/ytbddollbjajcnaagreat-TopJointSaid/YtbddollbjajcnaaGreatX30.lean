/- The evaluator: calls, deferred calls that recover, steps. -/
import Derived.Test.YtbddollbjajcnaaGreatX29
import Derived.Recover
import Derived.Tactics
namespace Go.Proofs.YtbddollbjajcnaaGreat
open Go
noncomputable section
set_option linter.unusedVariables false
set_option linter.unusedSimpArgs false
variable {P : Program}
/-- the function may be entered -/
def FnE (P : Program) (g : FuncId) : Prop := ∀ (args : Array Value) (w : World), (callFunc g args).run P w = .ok (.enter g args) w
theorem FnE.of {g : FuncId} {fn : Func} {c : Code} (hf : P.funcs[g]? = some fn) (hn : (fn.name == "runtime.NumGoroutine") = false) (hb : fn.body = some c) : FnE P g := fun args w => by
  have hn' : ¬ fn.name = "runtime.NumGoroutine" := fun e => by rw [e] at hn; simp at hn
  simp [callFunc, hf, hn', hb]
/-- a deferred call that does nothing where nothing panics -/
def RecQ (P : Program) (d : Deferred) : Prop := ∃ g : FuncId, d.target = .fn (.func g) #[] ∧ d.args = #[] ∧ FnE P g ∧ ∀ w : World, CallsD P g #[] .returning w fun e u' w' => (∃ v, e = .returned v) ∧ u' = .returning ∧ w' = w
def DF (P : Program) (a : Act) : Prop := ∀ d ∈ a.defers, RecQ P d
/-- the shape of a function that only recovers -/
def recB (fn : Func) : Bool :=
  match fn.results.toList with
  | [] => match fn.body with
    | some (.region _ ops false) => match ops.toList with
      | [o] => match o.op with
        | .call c => match c.callee with
          | .builtin .recover => match c.args.toList with
            | [] => match o.guard with
              | none => true
              | some _ => false
            | _ => false
          | _ => false
        | _ => false
      | _ => false
    | _ => false
  | _ => false
theorem rec_calls {g : FuncId} {fn : Func} (hf : P.funcs[g]? = some fn) (h : recB fn = true) (w : World) : CallsD P g #[] .returning w fun e u' w' => (∃ v, e = .returned v) ∧ u' = .returning ∧ w' = w := by
  unfold recB at h
  split at h
  · rename_i hres
    split at h
    · rename_i id ops hb
      split at h
      · rename_i o hops
        split at h
        · rename_i c ho
          split at h
          · rename_i hc
            split at h
            · rename_i hargs
              split at h
              · rename_i hg
                obtain ⟨callee, args, tys⟩ := c
                simp only at hc hargs
                subst hc
                obtain ⟨args⟩ := args
                simp only at hargs
                subst hargs
                have hops' : ops = #[o] := Array.ext' hops
                subst hops'
                have hres' : fn.results = #[] := Array.ext' hres
                refine callsD_of_wpS hf hb fun c₀ cs hu => ?_
                intro b k hbk hro
                have key : wpOpsS P #[o] (bodyPostS P fn c₀ cs fun e u' w' => (∃ v, e = .returned v) ∧ u' = .returning ∧ w' = w) [0] { tmps := #[] ++ Array.replicate (fn.ntmps - (#[] : Array Value).size) undef, defers := [] } (c₀ :: cs) w := by
                  have hw : Region.wanted o (yielded #[o] (#[] ++ Array.replicate (fn.ntmps - (#[] : Array Value).size) undef)) = true := by
                    unfold Region.wanted
                    rw [hg]
                  have hx : ∀ ρ, (execOp ρ o).run P w = .ok .recover w := fun ρ => by
                    simp [execOp, ho, resolve, invoke, builtin]
                  have hr : recoverD (c₀ :: cs) = none := by simp [recoverD, hu]
                  have h0 : (#[o] : Array Oper)[0]? = some o := rfl
                  unfold wpOpsS
                  simp only [h0, hw, if_true, hx, hr]
                  unfold wpOpsS
                  cases c₀
                  unfold bodyPostS
                  simp_all [results, put_defers]
                obtain ⟨e, a', cs', w', h1, h2⟩ := wp_opsS [0] _ _ _ key b k hbk hro
                exact ⟨e, a', cs', w', h1, .of_steps (.one step_region) h2⟩
              · cases h
            · cases h
          · cases h
        · cases h
      · cases h
    · cases h
  · cases h
/-- the deferred calls of a function that returns -/
theorem leaves_ret {fn : Func} {tmps : Array Value} {R : Ending → World → Prop} {v : Value} {w : World} (hr : (results fn tmps).run P w = .ok v w) (hR : R (.returned v) w) : ∀ {ds : List Deferred}, (∀ d ∈ ds, RecQ P d) → Leaves P fn tmps R ds .returning w
  | [], _ => ⟨v, hr, hR⟩
  | d :: ds, h => by
    obtain ⟨g, h1, h2, h3, h4⟩ := h d List.mem_cons_self
    have ih := leaves_ret hr hR (ds := ds) fun d hd => h d (List.mem_cons_of_mem _ hd)
    refine ⟨by simp, .func g, #[], g, #[], h1, ?_, ?_⟩
    · rw [h1, h2]
      simp only [invoke]
      exact h3 _ _
    · refine CallsD.mono (h4 w) ?_
      rintro e u' w' ⟨⟨v', rfl⟩, rfl, rfl⟩
      exact ih
/-- values as arguments -/
def argsX (f : XF) : List Operand → Option (List XV)
  | [] => some []
  | o :: l => ob (evX f o) fun x => ob (argsX f l) fun m => some (x :: m)
theorem argsX_ok {α : XM} {f : XF} {a : Act} (k : FR1 α f a) : ∀ {l : List Operand} {m : List XV}, argsX f l = some m → F2 (VR α) m (l.map a.eval)
  | [], m, h => by cases h; exact .nil
  | o :: l, m, h => by
    obtain ⟨x, h1, h⟩ := ob_some h
    obtain ⟨r, h2, h⟩ := ob_some h
    cases h
    exact .cons (evX_ok k h1) (argsX_ok k h2)
theorem args_congr {f g : XF} {l : List Tmp} (h : Agree f g l) : ∀ {ps : List Operand}, (∀ t ∈ opnds ps, t ∈ l) → argsX f ps = argsX g ps
  | [], _ => rfl
  | o :: r, hl => by
    unfold argsX
    rw [ev_congr h (fun t ht => hl t (mem_app.2 (.inl ht))), args_congr h (fun t ht => hl t (mem_app.2 (.inr ht)))]
def ptrV : List (Option XA) → List XV
  | [] => []
  | p :: l => .one (.ptr p) :: ptrV l
theorem ptrV_ok {α : XM} : ∀ {l : List (Option XA)} {m : List Value}, F2 (PR α) l m → F2 (VR α) (ptrV l) m
  | [], _, .nil => .nil
  | _ :: _, _, .cons h t => .cons h (ptrV_ok t)
/-- what a call does -/
def CallOK (P : Program) (g : FuncId) (args : List XV) (s : XS) (outs : List (XV × XS)) : Prop :=
  ∀ (α : XM) (w : World) (vs : List Value), HR α s w → F2 (VR α) args vs → ∀ R : Ending → World → Prop,
    (∀ x t, (x, t) ∈ outs → ∀ β v w', VR β x v → HR β t w' → GR α s w β t w' → KS s.k t.k → R (.returned v) w') → Calls P g vs.toArray w R
abbrev CallF := FuncId → List XV → XS → Option (List (XV × XS))
def CallF.OK (P : Program) (cf : CallF) : Prop := ∀ g args s outs, cf g args s = some outs → FnE P g ∧ CallOK P g args s outs
/-- what a step does, whatever follows -/
def StepsOK (P : Program) (o : Oper) (f : XF) (s : XS) (outs : List (XV × XS)) : Prop :=
  ∀ (α : XM) (a : Act) (w : World), HR α s w → FR1 α f a → DF P a → ∀ (K : Act → World → Prop) (Q : Exit → Act → World → Prop),
    (∀ x t, (x, t) ∈ outs → ∀ β v a' w', a'.tmps = (a.put o.dst v).tmps → DF P a' → VR β x v → HR β t w' → GR α s w β t w' → KS s.k t.k → K a' w') → o.wp P a w K Q
theorem DF.put {a : Act} (h : DF P a) (d : Option Tmp) (v : Value) : DF P (a.put d v) := by
  unfold DF
  rw [put_defers]
  exact h
theorem StepsOK.of {o : Oper} {f : XF} {s : XS} {outs : List (XV × XS)} (h : ∀ α a w, HR α s w → FR1 α f a → ∃ x t, (x, t) ∈ outs ∧ OpOK P o a α s w x t) : StepsOK P o f s outs := fun α a w H F D K Q hK => by
  obtain ⟨x, t, hm, β, nx, v, w', h1, h2, h3, h4, h5, h6⟩ := h α a w H F
  have := hK x t hm β v _ w' rfl (D.put o.dst v) h3 h4 h5 (by rw [h6]; exact KS.refl _)
  unfold Oper.wp
  rw [h1]
  rcases h2 with rfl | ⟨rfl, rfl⟩
  · exact this
  · exact this
theorem run_callV {o : Oper} {a : Act} {y : Operand} {args : Array Operand} {tys : Array TypeId} (ho : o.op = .call ⟨.value y, args, tys⟩) {g : FuncId} {us vs : List Value} (hv : a.eval y = .func (.func g) us.toArray vs.toArray) (hE : FnE P g) (w : World) :
    (execOp a.eval o).run P w = .ok (.enter g (us ++ (args.toList.map a.eval ++ vs)).toArray) w := by
  have e : (us.toArray ++ args.map a.eval) ++ vs.toArray = (us ++ (args.toList.map a.eval ++ vs)).toArray := by
    apply Array.ext'
    simp
  have h1 := hE ((us.toArray ++ args.map a.eval) ++ vs.toArray) w
  rw [e] at h1
  rw [← h1, ← e]
  simp [execOp, ho, resolve, Deferred.ofValue, hv, invoke]
def callVX (cf : CallF) (f : XF) (s : XS) (y : Operand) (args : List Operand) : Option (List (XV × XS)) :=
  ob (evX f y) fun q => match q with
    | .one (.fn g xs ys) => ob (argsX f args) fun vs => cf g (List.append (ptrV xs) (List.append vs (ptrV ys))) s
    | _ => none
theorem callVX_ok {cf : CallF} (hcf : cf.OK P) {o : Oper} {y : Operand} {args : Array Operand} {tys : Array TypeId} (ho : o.op = .call ⟨.value y, args, tys⟩) {f : XF} {s : XS} {outs : List (XV × XS)} (h : callVX cf f s y args.toList = some outs)
    {α : XM} {a : Act} {w : World} (H : HR α s w) (F : FR1 α f a) {K : Act → World → Prop} {Q : Exit → Act → World → Prop} (hK : ∀ x t, (x, t) ∈ outs → ∀ β v w', VR β x v → HR β t w' → GR α s w β t w' → KS s.k t.k → K (a.put o.dst v) w') : o.wp P a w K Q := by
  obtain ⟨q, h1, h⟩ := ob_some h
  split at h
  · rename_i g xs ys
    obtain ⟨vs, h2, h3⟩ := ob_some h
    obtain ⟨hE, hC⟩ := hcf _ _ _ _ h3
    obtain ⟨us, ws, k1, k2, k3⟩ := evX_ok F h1
    have hargs := (ptrV_ok k1).append ((argsX_ok F h2).append (ptrV_ok k2))
    unfold Oper.wp
    rw [run_callV ho k3 hE w]
    exact hC α w _ H hargs _ fun x t hm β v w' e1 e2 e3 e4 => hK x t hm β v w' e1 e2 e3 e4
  · cases h
theorem callV_congr {cf : CallF} {f g : XF} {l : List Tmp} (h : Agree f g l) {y : Operand} {args : List Operand} (hl : ∀ t ∈ List.append (opnd y) (opnds args), t ∈ l) (s : XS) : callVX cf f s y args = callVX cf g s y args := by
  unfold callVX
  rw [ev_congr h (fun t ht => hl t (mem_app.2 (.inl ht)))]
  simp only [args_congr h (fun t ht => hl t (mem_app.2 (.inr ht)))]
def oneXS (P : Program) (cf : CallF) (f : XF) (s : XS) (o : Oper) : Option (XV × XS) :=
  match o.op with
  | .call c => match c.callee with
    | .value y => ob (callVX cf f s y c.args.toList) fun outs => match outs with
      | [p] => some p
      | _ => none
    | .builtin _ => opX P f s o
    | .invoke _ _ => none
  | _ => opX P f s o
def oneC : Op → Bool
  | .call c => match c.callee with
    | .builtin _ => false
    | _ => true
  | _ => false
/-- an operation of a chain, in a region that draws -/
def oneX (P : Program) (cf : CallF) (f : XF) (s : XS) (o : Oper) : Option (XV × XS) :=
  match oneC o.op with
  | false => opX P f s o
  | true => oneXS P cf f s o
theorem oneX_eq (cf : CallF) (f : XF) (s : XS) (o : Oper) : oneX P cf f s o = oneXS P cf f s o := by
  unfold oneX
  cases h : oneC o.op with
  | true => rfl
  | false =>
    simp only
    unfold oneXS
    cases ho : o.op <;> rw [ho] at h <;> simp only [oneC] at h <;> first | rfl | (cases h; done) | skip
    rename_i c
    obtain ⟨callee, args, tys⟩ := c
    cases callee with
    | builtin b => rfl
    | value y => cases h
    | invoke y m => cases h
theorem oneX_ok {cf : CallF} (hcf : cf.OK P) {ops : List Oper} (f : XF) (s : XS) (o : Oper) (x : XV) (t : XS) (hn : f.n ≤ 1000000) (h : oneX P cf f s o = some (x, t)) : StepOK P o (rs f (looksO ops o)) s x t := by
  have hop : opX P f s o = some (x, t) → StepOK P o (rs f (looksO ops o)) s x t := fun h => by
    rw [opX_congr (rs_agree hn (looksO ops o)) (fun t ht => mem_app.2 (.inr ht))] at h
    exact StepOK.of fun α a w H F => opX_ok H F h
  rw [oneX_eq] at h
  unfold oneXS at h
  split at h
  · rename_i c ho
    obtain ⟨callee, args, tys⟩ := c
    simp only at h
    split at h
    · rename_i y
      obtain ⟨outs, h1, h2⟩ := ob_some h
      split at h2
      · rename_i p
        cases h2
        rw [callV_congr (rs_agree hn (looksO ops o)) (fun t ht => mem_app.2 (.inr (by rw [ho]; exact ht)))] at h1
        intro α a w H F K Q hK
        refine callVX_ok hcf ho h1 H F fun x' t' hm β v w' e1 e2 e3 e4 => ?_
        rcases List.mem_singleton.1 hm with e
        cases e
        exact hK β v w' e1 e2 e3 e4
      · cases h2
    · exact hop h
    · cases h
  · exact hop h
def stepXS (P : Program) (rc : FuncId → Bool) (cf : CallF) (f : XF) (s : XS) (o : Oper) : Option (List (XV × XS)) :=
  match o.op with
  | .call c => match c.callee with
    | .value y => callVX cf f s y c.args.toList
    | .builtin _ => ob (opX P f s o) fun p => some [p]
    | .invoke _ _ => none
  | .next y i => match i with
    | false => ob (evX f y) fun q => match q with
      | .one (.ptr (some (b, 0))) => nextX s b
      | _ => none
    | true => none
  | .defer c => match c.callee with
    | .value y => match c.args.toList with
      | [] => ob (evX f y) fun q => match q with
        | .one (.fn g [] []) => bif rc g then (match o.dst with
          | none => some [(.tup [], s)]
          | some _ => none) else none
        | _ => none
      | _ => none
    | _ => none
  | _ => ob (opX P f s o) fun p => some [p]
def stepC : Op → Bool
  | .call c => match c.callee with
    | .builtin _ => false
    | _ => true
  | .next _ _ => true
  | .defer _ => true
  | _ => false
/-- a step, in a region that does not draw -/
def stepX (P : Program) (rc : FuncId → Bool) (cf : CallF) (f : XF) (s : XS) (o : Oper) : Option (List (XV × XS)) :=
  match stepC o.op with
  | false => ob (opX P f s o) fun p => some [p]
  | true => stepXS P rc cf f s o
theorem stepX_eq (rc : FuncId → Bool) (cf : CallF) (f : XF) (s : XS) (o : Oper) : stepX P rc cf f s o = stepXS P rc cf f s o := by
  unfold stepX
  cases h : stepC o.op with
  | true => rfl
  | false =>
    simp only
    unfold stepXS
    cases ho : o.op <;> rw [ho] at h <;> simp only [stepC] at h <;> first | rfl | (cases h; done) | skip
    rename_i c
    obtain ⟨callee, args, tys⟩ := c
    cases callee with
    | builtin b => rfl
    | value y => cases h
    | invoke y m => cases h
def RecF (P : Program) (rc : FuncId → Bool) : Prop := ∀ g, rc g = true → FnE P g ∧ ∀ w : World, CallsD P g #[] .returning w fun e u' w' => (∃ v, e = .returned v) ∧ u' = .returning ∧ w' = w
theorem stepX_ok {rc : FuncId → Bool} (hrc : RecF P rc) {cf : CallF} (hcf : cf.OK P) {f : XF} {s : XS} {o : Oper} {outs : List (XV × XS)} (h : stepX P rc cf f s o = some outs) : StepsOK P o f s outs := by
  rw [stepX_eq] at h
  have hop : (ob (opX P f s o) fun p => some [p]) = some outs → StepsOK P o f s outs := fun h => by
    obtain ⟨p, h1, h2⟩ := ob_some h
    cases h2
    exact StepsOK.of fun α a w H F => ⟨p.1, p.2, List.mem_singleton.2 rfl, opX_ok H F h1⟩
  unfold stepXS at h
  split at h
  · rename_i c ho
    obtain ⟨callee, args, tys⟩ := c
    simp only at h
    split at h
    · rename_i y
      intro α a w H F D K Q hK
      exact callVX_ok hcf ho h H F fun x t hm β v w' e1 e2 e3 e4 => hK x t hm β v _ w' rfl (D.put o.dst v) e1 e2 e3 e4
    · exact hop h
    · cases h
  · rename_i y i ho
    split at h
    · obtain ⟨q, h1, h⟩ := ob_some h
      split at h
      · exact StepsOK.of fun α a w H F => next_ok H F ho h1 h
      · cases h
    · cases h
  · rename_i c ho
    obtain ⟨callee, args, tys⟩ := c
    simp only at h
    split at h
    · rename_i y
      split at h
      · rename_i hargs
        obtain ⟨q, h1, h⟩ := ob_some h
        split at h
        · rename_i g
          obtain ⟨hg, h⟩ := bif_some h
          split at h
          · rename_i hdst
            cases h
            intro α a w H F D K Q hK
            obtain ⟨us, vs, k1, k2, k3⟩ := evX_ok F h1
            cases k1
            cases k2
            obtain ⟨args⟩ := args
            simp only at hargs
            subst hargs
            have hr : (execOp a.eval o).run P w = .ok (.defer { target := .fn (.func g) #[], args := #[] }) w := by
              simp [execOp, ho, resolve, Deferred.ofValue, k3]
            unfold Oper.wp
            rw [hr]
            refine hK (.tup []) s (List.mem_singleton.2 rfl) α (.tuple #[]) _ w ?_ ?_ ⟨[], .nil, rfl⟩ H (GR.refl _ _ _) (KS.refl _)
            · rw [hdst]; rfl
            · refine DF.put ?_ o.dst undef
              intro d hd
              rcases List.mem_cons.1 hd with rfl | hd
              · exact ⟨g, rfl, rfl, (hrc g hg).1, (hrc g hg).2⟩
              · exact D d hd
          · cases h
        · cases h
      · cases h
    · cases h
  · exact hop h
end
end Go.Proofs.YtbddollbjajcnaaGreat
