/- SX: what single operations do. -/
import Derived.Test.YteakoleceoclkaaSX1
namespace Go.Proofs.Yteakoleceoclkaa
open Go.RowKit
set_option linter.unusedSimpArgs false
set_option linter.unusedVariables false

/-- an operand whose value is known -/
def OpX (L : Nat → Sp) (n : Nat) : Operand → Value → Prop
  | .tmp t, v => decide (t < n) = true ∧ ∀ w u, (L t).on w u → u = v
  | .const c, v => c = v
  | _, _ => False
def OpXs (L : Nat → Sp) (n : Nat) : List Operand → List Value → Prop
  | [], [] => True
  | x :: l, v :: vs => OpX L n x v ∧ OpXs L n l vs
  | _, _ => False
/-- a guard that says yes -/
def GX (ops : Array Oper) (L : Nat → Sp) (n : Nat) : Option (Nat × Bool) → Prop
  | none => True
  | some (g, b) => ∃ t, (ops[g]?).bind (·.dst) = some t ∧ decide (t < n) = true ∧ ∀ w v, (L t).on w v → v = .bool b
/-- a guard that says no -/
def GN (ops : Array Oper) (L : Nat → Sp) (n : Nat) : Option (Nat × Bool) → Prop
  | none => False
  | some (g, b) => ∃ t, (ops[g]?).bind (·.dst) = some t ∧ decide (t < n) = true ∧ ∀ w v, (L t).on w v → v = .bool !b
section
variable {P : Program} {ops : Array Oper} {L : Nat → Sp} {n : Nat} {w0 : World} {o : Oper}
theorem OpX.eval {x : Operand} {v : Value} (h : OpX L n x v) {a : Act} {w : World} (hx : x ∈ o.op.operands.toList) (hl : ∀ t ∈ o.looksAt ops, t < n → (L t).on w (a.tmps.getD t undef)) : a.eval x = v := by
  cases x with
  | tmp t => exact h.2 w _ (hl t (by simp only [Oper.looksAt, List.mem_append, List.mem_filterMap]; exact .inl ⟨.tmp t, by simpa using hx, rfl⟩) (of_decide_eq_true h.1))
  | const c => exact h
  | global g => exact h.elim
  | func f => exact h.elim
theorem OpXs.eval : ∀ {l : List Operand} {vs : List Value}, OpXs L n l vs → ∀ {a : Act} {w : World}, (∀ x ∈ l, x ∈ o.op.operands.toList) → (∀ t ∈ o.looksAt ops, t < n → (L t).on w (a.tmps.getD t undef)) → l.map a.eval = vs
  | [], [], _, _, _, _, _ => rfl
  | x :: l, v :: vs, h, a, w, hx, hl => by
    rw [List.map_cons, OpX.eval (o := o) h.1 (hx x List.mem_cons_self) hl, OpXs.eval h.2 (fun y hy => hx y (List.mem_cons_of_mem _ hy)) hl]
  | [], _ :: _, h, _, _, _, _ => h.elim
  | _ :: _, [], h, _, _, _, _ => h.elim
theorem GX.wanted {o : Oper} {a : Act} {w : World} (h : GX ops L n o.guard) (hl : ∀ t ∈ o.looksAt ops, t < n → (L t).on w (a.tmps.getD t undef)) (hs : a.tmps.size = n) : Region.wanted o (yielded ops a.tmps) = true := by
  unfold Region.wanted
  cases hg : o.guard with
  | none => rfl
  | some p =>
    obtain ⟨g, b⟩ := p
    rw [hg] at h
    obtain ⟨t, ht, htn, hv⟩ := h
    have htn := of_decide_eq_true htn
    have hv := hv w _ (hl t (by simp [Oper.looksAt, hg, ht]) htn)
    have htl : t < a.tmps.size := hs ▸ htn
    rw [Array.getD_eq_getD_getElem?, Array.getElem?_eq_getElem htl, Option.getD_some] at hv
    simp [yielded, ht, Array.getElem?_eq_getElem htl, hv]
theorem GN.wanted {o : Oper} {a : Act} {w : World} (h : GN ops L n o.guard) (hl : ∀ t ∈ o.looksAt ops, t < n → (L t).on w (a.tmps.getD t undef)) (hs : a.tmps.size = n) : Region.wanted o (yielded ops a.tmps) = false := by
  unfold Region.wanted
  cases hg : o.guard with
  | none => rw [hg] at h; exact h.elim
  | some p =>
    obtain ⟨g, b⟩ := p
    rw [hg] at h
    obtain ⟨t, ht, htn, hv⟩ := h
    have htn := of_decide_eq_true htn
    have hv := hv w _ (hl t (by simp [Oper.looksAt, hg, ht]) htn)
    have htl : t < a.tmps.size := hs ▸ htn
    rw [Array.getD_eq_getD_getElem?, Array.getElem?_eq_getElem htl, Option.getD_some] at hv
    cases b <;> simp [yielded, ht, Array.getElem?_eq_getElem htl, hv]
/-- what is not asked for -/
theorem ox_off (hg : GN ops L n o.guard) {d : Nat} (hd : o.dst = some d) (h : ∀ w, (L d).on w undef) : OX P ops L n w0 o := by
  intro a w hw hl hs
  unfold OpSays
  rw [if_neg (by rw [hg.wanted hl hs]; simp)]
  exact ⟨World.grownBy.refl _ _, fun d' hd' => by rw [hd] at hd'; obtain rfl := Option.some.inj hd'; exact h w⟩
theorem ox_run (hg : GX ops L n o.guard) (h : ∀ (a : Act) w, w0.grownBy w none → (∀ t ∈ o.looksAt ops, t < n → (L t).on w (a.tmps.getD t undef)) → a.tmps.size = n → ∃ v, (execOp a.eval o).run P w = .ok (.value v) w ∧ ∀ d, o.dst = some d → (L d).on w v) : OX P ops L n w0 o := by
  intro a w hw hl hs
  unfold OpSays
  rw [if_pos (hg.wanted hl hs)]
  obtain ⟨v, hr, hv⟩ := h a w hw hl hs
  rw [hr]
  exact ⟨World.grownBy.refl _ _, hv⟩
theorem px_run (hg : GX ops L n o.guard) (h : ∀ (a : Act) w, w0.grownBy w none → (∀ t ∈ o.looksAt ops, t < n → (L t).on w (a.tmps.getD t undef)) → a.tmps.size = n → ∃ v, (∀ w', (execOp a.eval o).run P w' = .ok (.value v) w') ∧ ∀ d, o.dst = some d → (L d).on w v) : PX P ops L n w0 o := by
  intro a w hw hl hs
  obtain ⟨v, hr, hv⟩ := h a w hw hl hs
  exact ⟨v, .inl ⟨hg.wanted hl hs, hr⟩, hv⟩
theorem px_off (hg : GN ops L n o.guard) {d : Nat} (hd : o.dst = some d) (h : ∀ w, (L d).on w undef) : PX P ops L n w0 o := fun a w hw hl hs =>
  ⟨undef, .inr ⟨hg.wanted hl hs, rfl⟩, fun d' hd' => by rw [hd] at hd'; obtain rfl := Option.some.inj hd'; exact h w⟩
theorem dst_on {d : Nat} {v : Value} {w : World} (hd : o.dst = some d) (h : (L d).on w v) : ∀ d', o.dst = some d' → (L d').on w v := fun d' hd' => by rw [hd] at hd'; obtain rfl := Option.some.inj hd'; exact h

/-! ### what is handed on -/
theorem mv_run (a : Act) (x : Operand) (ho : o.op = .move x ∨ o.op = .assign x) (w : World) : (execOp a.eval o).run P w = .ok (.value (a.eval x)) w := by
  rcases ho with ho | ho <;> simp [execOp, ho]
theorem mv_looks {s : Nat} (ho : o.op = .move (.tmp s) ∨ o.op = .assign (.tmp s)) : s ∈ o.looksAt ops := by
  rcases ho with ho | ho <;> simp [Oper.looksAt, ho, Op.operands]
theorem ox_move (s d : Nat) (ho : o.op = .move (.tmp s) ∨ o.op = .assign (.tmp s)) (hd : o.dst = some d) (hs : decide (s < n) = true) (hg : GX ops L n o.guard) (h : ∀ w v, (L s).on w v → (L d).on w v) : OX P ops L n w0 o :=
  ox_run hg fun a w hw hl hsz => ⟨_, mv_run a _ ho w, dst_on hd (h w _ (hl s (mv_looks ho) (of_decide_eq_true hs)))⟩
theorem px_move (s d : Nat) (ho : o.op = .move (.tmp s) ∨ o.op = .assign (.tmp s)) (hd : o.dst = some d) (hs : decide (s < n) = true) (hg : GX ops L n o.guard) (h : ∀ w v, (L s).on w v → (L d).on w v) : PX P ops L n w0 o :=
  px_run hg fun a w hw hl hsz => ⟨_, fun w' => mv_run a _ ho w', dst_on hd (h w _ (hl s (mv_looks ho) (of_decide_eq_true hs)))⟩
theorem ox_const {c : Value} {d : Nat} (ho : o.op = .move (.const c) ∨ o.op = .assign (.const c)) (hd : o.dst = some d) (hg : GX ops L n o.guard) (h : ∀ w, (L d).on w c) : OX P ops L n w0 o :=
  ox_run hg fun a w hw hl hsz => ⟨_, mv_run a _ ho w, dst_on hd (h w)⟩
theorem run_extract' {a : Act} {s i : Nat} {vs : Array Value} {v : Value} (ho : o.op = .extract (.tmp s) i) (hx : a.tmps.getD s undef = .tuple vs) (hi : vs[i]? = some v) (w : World) : (execOp a.eval o).run P w = .ok (.value v) w := run_extract ho hx hi w
theorem ox_extract {s i d : Nat} (ho : o.op = .extract (.tmp s) i) (hd : o.dst = some d) (hs : decide (s < n) = true) (hg : GX ops L n o.guard) (h : ∀ w u, (L s).on w u → ∃ vs v, u = .tuple vs ∧ vs[i]? = some v ∧ (L d).on w v) : OX P ops L n w0 o :=
  ox_run hg fun a w hw hl hsz => by
    obtain ⟨vs, v, h1, h2, h3⟩ := h w _ (hl s (by simp [Oper.looksAt, ho, Op.operands]) (of_decide_eq_true hs))
    exact ⟨v, run_extract ho h1 h2 w, dst_on hd h3⟩
theorem px_extract {s i d : Nat} (ho : o.op = .extract (.tmp s) i) (hd : o.dst = some d) (hs : decide (s < n) = true) (hg : GX ops L n o.guard) (h : ∀ w u, (L s).on w u → ∃ vs v, u = .tuple vs ∧ vs[i]? = some v ∧ (L d).on w v) : PX P ops L n w0 o :=
  px_run hg fun a w hw hl hsz => by
    obtain ⟨vs, v, h1, h2, h3⟩ := h w _ (hl s (by simp [Oper.looksAt, ho, Op.operands]) (of_decide_eq_true hs))
    exact ⟨v, fun w' => run_extract ho h1 h2 w', dst_on hd h3⟩

/-! ### of one and of two operands -/
/-- an operation of one known operand -/
theorem one_run {x : Operand} {vx v : Value} {a : Act} {w : World} (hx : OpX L n x vx) (hmem : x ∈ o.op.operands.toList) (hl : ∀ t ∈ o.looksAt ops, t < n → (L t).on w (a.tmps.getD t undef)) : a.eval x = vx := hx.eval (o := o) hmem hl
theorem ox_load {T : TypeId} {x : Operand} {d : Nat} {p v : Value} (ho : o.op = .load T x) (hd : o.dst = some d) (hg : GX ops L n o.guard) (hx : OpX L n x p) (hr : ∀ w, w0.grownBy w none → (Instr.loadAt T p).run P w = .ok v w) (h : ∀ w, (L d).on w v) : OX P ops L n w0 o :=
  ox_run hg fun a w hw hl hsz => ⟨v, by
    have e1 := hx.eval (o := o) (by simp [ho, Op.operands]) hl
    simp only [execOp, ho, e1, Sem.run_bind, Sem.run_pure, Result.andThen_ok, hr w hw], dst_on hd (h w)⟩
theorem ox_field {ty : TypeId} {x : Operand} {k d : Nat} {p v : Value} (ho : o.op = .fieldAddr ty x k) (hd : o.dst = some d) (hg : GX ops L n o.guard) (hx : OpX L n x p) (hrun : ∀ w, (Instr.fieldAt ty p k).run P w = .ok v w) (h : ∀ w, (L d).on w v) : OX P ops L n w0 o :=
  ox_run hg fun a w hw hl hsz => ⟨v, by
    have e1 := hx.eval (o := o) (by simp [ho, Op.operands]) hl
    simp only [execOp, ho, e1, Sem.run_bind, Sem.run_pure, Result.andThen_ok, hrun w], dst_on hd (h w)⟩
theorem ox_index {ty : TypeId} {x y : Operand} {d : Nat} {p k v : Value} (ho : o.op = .indexAddr ty x y) (hd : o.dst = some d) (hg : GX ops L n o.guard) (hx : OpX L n x p) (hy : OpX L n y k) (hrun : ∀ w, (Instr.indexAt ty p k).run P w = .ok v w) (h : ∀ w, (L d).on w v) : OX P ops L n w0 o :=
  ox_run hg fun a w hw hl hsz => ⟨v, by
    have e1 := hx.eval (o := o) (by simp [ho, Op.operands]) hl
    have e2 := hy.eval (o := o) (by simp [ho, Op.operands]) hl
    simp only [execOp, ho, e1, e2, Sem.run_bind, Sem.run_pure, Result.andThen_ok, hrun w], dst_on hd (h w)⟩
theorem bin_run {b : BinOp} {ty ty2 : TypeId} {x y : Operand} {vx vy v : Value} {a : Act} (ho : o.op = .binOp b ty x y ty2) (e1 : a.eval x = vx) (e2 : a.eval y = vy) {w : World} (h : (do eqGuard b ty x y vx vy; binOp b ty vx vy : Sem Value).run P w = .ok v w) : (execOp a.eval o).run P w = .ok (.value v) w := by
  simp only [execOp, ho, e1, e2]
  simp only [Sem.run_bind] at h ⊢
  rw [h]
  rfl
theorem ox_bin {b : BinOp} {ty ty2 : TypeId} {x y : Operand} {vx vy v : Value} {d : Nat} (ho : o.op = .binOp b ty x y ty2) (hd : o.dst = some d) (hg : GX ops L n o.guard) (hx : OpX L n x vx) (hy : OpX L n y vy)
    (hrun : ∀ w, (do eqGuard b ty x y vx vy; binOp b ty vx vy : Sem Value).run P w = .ok v w) (h : ∀ w, (L d).on w v) : OX P ops L n w0 o :=
  ox_run hg fun a w hw hl hsz => ⟨v, bin_run ho (hx.eval (o := o) (by simp [ho, Op.operands]) hl) (hy.eval (o := o) (by simp [ho, Op.operands]) hl) (hrun w), dst_on hd (h w)⟩
theorem px_bin {b : BinOp} {ty ty2 : TypeId} {x y : Operand} {vx vy v : Value} {d : Nat} (ho : o.op = .binOp b ty x y ty2) (hd : o.dst = some d) (hg : GX ops L n o.guard) (hx : OpX L n x vx) (hy : OpX L n y vy)
    (hrun : ∀ w, (do eqGuard b ty x y vx vy; binOp b ty vx vy : Sem Value).run P w = .ok v w) (h : ∀ w, (L d).on w v) : PX P ops L n w0 o :=
  px_run hg fun a w hw hl hsz => ⟨v, fun w' => bin_run ho (hx.eval (o := o) (by simp [ho, Op.operands]) hl) (hy.eval (o := o) (by simp [ho, Op.operands]) hl) (hrun w'), dst_on hd (h w)⟩
theorem ox_un {b : UnOp} {ty : TypeId} {x : Operand} {vx v : Value} {d : Nat} (ho : o.op = .unOp b ty x) (hd : o.dst = some d) (hg : GX ops L n o.guard) (hx : OpX L n x vx) (hrun : ∀ w, (Op.unary b vx).run P w = .ok v w) (h : ∀ w, (L d).on w v) : OX P ops L n w0 o :=
  ox_run hg fun a w hw hl hsz => ⟨v, by
    have e1 := hx.eval (o := o) (by simp [ho, Op.operands]) hl
    simp only [execOp, ho, e1, Sem.run_bind, Sem.run_pure, Result.andThen_ok, hrun w], dst_on hd (h w)⟩
theorem ox_conv {s t : TypeId} {x : Operand} {vx v : Value} {d : Nat} (ho : o.op = .convert s t x) (hd : o.dst = some d) (hg : GX ops L n o.guard) (hx : OpX L n x vx) (hrun : ∀ w, (convert s t vx).run P w = .ok v w) (h : ∀ w, (L d).on w v) : OX P ops L n w0 o :=
  ox_run hg fun a w hw hl hsz => ⟨v, by
    have e1 := hx.eval (o := o) (by simp [ho, Op.operands]) hl
    simp only [execOp, ho, e1, Sem.run_bind, Sem.run_pure, Result.andThen_ok, hrun w], dst_on hd (h w)⟩
theorem ox_at {ty : TypeId} {x y : Operand} {d : Nat} {p k v : Value} (ho : o.op = .index ty x y) (hd : o.dst = some d) (hg : GX ops L n o.guard) (hx : OpX L n x p) (hy : OpX L n y k) (hrun : ∀ w, (Instr.index ty p k).run P w = .ok v w) (h : ∀ w, (L d).on w v) : OX P ops L n w0 o :=
  ox_run hg fun a w hw hl hsz => ⟨v, by
    have e1 := hx.eval (o := o) (by simp [ho, Op.operands]) hl
    have e2 := hy.eval (o := o) (by simp [ho, Op.operands]) hl
    simp only [execOp, ho, e1, e2, Sem.run_bind, Sem.run_pure, Result.andThen_ok, hrun w], dst_on hd (h w)⟩
theorem ox_pick {x y z : Operand} {b : Bool} {v : Value} {d : Nat} (ho : o.op = .pick x y z) (hd : o.dst = some d) (hg : GX ops L n o.guard) (hx : OpX L n x (.bool b)) (hy : OpX L n (bif b then y else z) v) (h : ∀ w, (L d).on w v) : OX P ops L n w0 o :=
  ox_run hg fun a w hw hl hsz => ⟨v, by
    have e1 := hx.eval (o := o) (by simp [ho, Op.operands]) hl
    cases b with
    | true =>
      have e2 := OpX.eval (o := o) (ops := ops) (x := y) hy (by simp [ho, Op.operands]) hl
      simp [execOp, ho, e1, e2, asBool]
    | false =>
      have e2 := OpX.eval (o := o) (ops := ops) (x := z) hy (by simp [ho, Op.operands]) hl
      simp [execOp, ho, e1, e2, asBool], dst_on hd (h w)⟩
theorem px_pick {x y z : Operand} {b : Bool} {v : Value} {d : Nat} (ho : o.op = .pick x y z) (hd : o.dst = some d) (hg : GX ops L n o.guard) (hx : OpX L n x (.bool b)) (hy : OpX L n (bif b then y else z) v) (h : ∀ w, (L d).on w v) : PX P ops L n w0 o :=
  px_run hg fun a w hw hl hsz => ⟨v, fun w' => by
    have e1 := hx.eval (o := o) (by simp [ho, Op.operands]) hl
    cases b with
    | true =>
      have e2 := OpX.eval (o := o) (ops := ops) (x := y) hy (by simp [ho, Op.operands]) hl
      simp [execOp, ho, e1, e2, asBool]
    | false =>
      have e2 := OpX.eval (o := o) (ops := ops) (x := z) hy (by simp [ho, Op.operands]) hl
      simp [execOp, ho, e1, e2, asBool], dst_on hd (h w)⟩
theorem px_const {c : Value} {d : Nat} (ho : o.op = .move (.const c) ∨ o.op = .assign (.const c)) (hd : o.dst = some d) (hg : GX ops L n o.guard) (h : ∀ w, (L d).on w c) : PX P ops L n w0 o :=
  px_run hg fun a w hw hl hsz => ⟨_, fun w' => mv_run a _ ho w', dst_on hd (h w)⟩
theorem px_index {ty : TypeId} {x y : Operand} {d : Nat} {p k v : Value} (ho : o.op = .indexAddr ty x y) (hd : o.dst = some d) (hg : GX ops L n o.guard) (hx : OpX L n x p) (hy : OpX L n y k) (hrun : ∀ w, (Instr.indexAt ty p k).run P w = .ok v w) (h : ∀ w, (L d).on w v) : PX P ops L n w0 o :=
  px_run hg fun a w hw hl hsz => ⟨v, fun w' => by
    have e1 := hx.eval (o := o) (by simp [ho, Op.operands]) hl
    have e2 := hy.eval (o := o) (by simp [ho, Op.operands]) hl
    simp only [execOp, ho, e1, e2, Sem.run_bind, Sem.run_pure, Result.andThen_ok, hrun w'], dst_on hd (h w)⟩
theorem px_un {b : UnOp} {ty : TypeId} {x : Operand} {vx v : Value} {d : Nat} (ho : o.op = .unOp b ty x) (hd : o.dst = some d) (hg : GX ops L n o.guard) (hx : OpX L n x vx) (hrun : ∀ w, (Op.unary b vx).run P w = .ok v w) (h : ∀ w, (L d).on w v) : PX P ops L n w0 o :=
  px_run hg fun a w hw hl hsz => ⟨v, fun w' => by
    have e1 := hx.eval (o := o) (by simp [ho, Op.operands]) hl
    simp only [execOp, ho, e1, Sem.run_bind, Sem.run_pure, Result.andThen_ok, hrun w'], dst_on hd (h w)⟩
theorem px_conv {s t : TypeId} {x : Operand} {vx v : Value} {d : Nat} (ho : o.op = .convert s t x) (hd : o.dst = some d) (hg : GX ops L n o.guard) (hx : OpX L n x vx) (hrun : ∀ w, (convert s t vx).run P w = .ok v w) (h : ∀ w, (L d).on w v) : PX P ops L n w0 o :=
  px_run hg fun a w hw hl hsz => ⟨v, fun w' => by
    have e1 := hx.eval (o := o) (by simp [ho, Op.operands]) hl
    simp only [execOp, ho, e1, Sem.run_bind, Sem.run_pure, Result.andThen_ok, hrun w'], dst_on hd (h w)⟩
theorem ox_build {T : TypeId} {parts : Array (Nat × Operand)} {vs : List Value} {v : Value} {d : Nat} (ho : o.op = .build T parts) (hd : o.dst = some d) (hg : GX ops L n o.guard) (hx : OpXs L n (parts.toList.map (·.2)) vs)
    (hrun : ∀ w, (Instr.build T ((parts.toList.map (·.1)).zip vs).toArray).run P w = .ok v w) (h : ∀ w, (L d).on w v) : OX P ops L n w0 o :=
  ox_run hg fun a w hw hl hsz => ⟨v, by
    have e1 := hx.eval (o := o) (a := a) (w := w) (fun x hx => by simp only [ho, Op.operands]; simpa using hx) hl
    have e2 : (parts.map fun (i, x) => (i, a.eval x)) = ((parts.toList.map (·.1)).zip vs).toArray := by
      rw [← e1]
      apply Array.ext'
      simp only [Array.toList_map, List.toList_toArray]
      generalize parts.toList = l
      induction l with
      | nil => rfl
      | cons p l ih => simp [ih]
    simp only [execOp, ho, Sem.run_bind, Sem.run_pure, Result.andThen_ok, e2, hrun w], dst_on hd (h w)⟩
theorem len_run {x : Operand} {t e : TypeId} (he : P.underlying t = some (.slice e)) (ho : o.op = .call { callee := .builtin .len, args := #[x], argTypes := #[t] }) {a : Act} {ao : Option Addr} {m c : Nat} (hx : a.eval x = .slice ao m c) (w : World) : (execOp a.eval o).run P w = .ok (.value (.int .i64 m)) w := by
  simp only [execOp, ho, resolve, Sem.run_bind, Sem.run_pure, Result.andThen_ok, List.map_toArray, List.map_cons, List.map_nil, hx]
  simp [invoke, builtin, Builtin.len_, run_underlying he, goInt]
theorem ox_len {x : Operand} {t e : TypeId} {d : Nat} {ao : Option Addr} {m c : Nat} (he : P.underlying t = some (.slice e)) (ho : o.op = .call { callee := .builtin .len, args := #[x], argTypes := #[t] }) (hd : o.dst = some d) (hg : GX ops L n o.guard) (hx : OpX L n x (.slice ao m c)) (h : ∀ w, (L d).on w (.int .i64 m)) : OX P ops L n w0 o :=
  ox_run hg fun a w hw hl hsz => ⟨_, len_run he ho (hx.eval (o := o) (by simp [ho, Op.operands, Call.operands]) hl) w, dst_on hd (h w)⟩
/-- a call of a function -/
theorem ox_call (S : Sp) (av : List Value) {f d : Nat} {args : Array Operand} {tys : Array TypeId} (ho : o.op = .call { callee := .value (.func f), args := args, argTypes := tys }) (hd : o.dst = some d) (hg : GX ops L n o.guard)
    (hρ : OpXs L n args.toList av) (hc : ∀ w, w0.grownBy w none → Calls P f av.toArray w fun e w' => ∃ v, e = .returned v ∧ w.grownBy w' none ∧ S.on w' v) (h : ∀ w v, S.on w v → (L d).on w v)
    (hrun : ∀ (av : Array Value) w, ((Deferred.ofValue (.func (.func f) #[] #[]) av).run P w).andThen (fun a w' => (invoke a.target a.args).run P w') = .ok (.enter f av) w) : OX P ops L n w0 o := by
  intro a w hw hl hsz
  unfold OpSays
  rw [if_pos (hg.wanted hl hsz)]
  have hargs : args.map a.eval = av.toArray := by
    have := hρ.eval (o := o) (a := a) (w := w) (fun x hx => by simp only [ho, Op.operands, Call.operands]; simp at hx; simp; exact .inr hx) hl
    rw [← this]
    apply Array.ext'
    simp
  have hr : (execOp a.eval o).run P w = .ok (.enter f av.toArray) w := by
    simp only [execOp, ho, resolve, Act.eval, Sem.run_bind]
    have h1 := hrun (args.map a.eval) w
    rw [hargs] at h1
    first
      | exact h1
      | (rw [hargs]; exact h1)
  rw [hr]
  exact (hc w hw).mono fun e w' ⟨v, he, hg', hs⟩ => ⟨v, he, hg', dst_on hd (h w' v hs)⟩
/-- arguments of which facts are known -/
def ArgsOn (L : Nat → Sp) (w : World) : List Operand → List Value → Prop
  | [], [] => True
  | .tmp t :: l, v :: vs => (L t).on w v ∧ ArgsOn L w l vs
  | .const c :: l, v :: vs => v = c ∧ ArgsOn L w l vs
  | _, _ => False
theorem ArgsOn.of {a : Act} {w : World} (hl : ∀ t ∈ o.looksAt ops, t < n → (L t).on w (a.tmps.getD t undef)) : ∀ {l : List Operand}, (l.all fun x => match x with | .tmp t => decide (t < n) | .const _ => true | _ => false) = true → (∀ x ∈ l, x ∈ o.op.operands.toList) → ArgsOn L w l (l.map a.eval)
  | [], _, _ => trivial
  | x :: l, hn, hx => by
    rw [List.all_cons, Bool.and_eq_true] at hn
    have ih := ArgsOn.of hl hn.2 fun y hy => hx y (List.mem_cons_of_mem _ hy)
    cases x with
    | tmp t => exact ⟨hl t (by simp only [Oper.looksAt, List.mem_append, List.mem_filterMap]; exact .inl ⟨.tmp t, by simpa using hx (.tmp t) List.mem_cons_self, rfl⟩) (of_decide_eq_true hn.1), ih⟩
    | const c => exact ⟨rfl, ih⟩
    | global g => exact absurd hn.1 (by simp)
    | func f => exact absurd hn.1 (by simp)
theorem ox_callY (S : Sp) {f d : Nat} {args : Array Operand} {tys : Array TypeId} (ho : o.op = .call { callee := .value (.func f), args := args, argTypes := tys }) (hd : o.dst = some d) (hg : GX ops L n o.guard)
    (hn : (args.toList.all fun x => match x with | .tmp t => decide (t < n) | .const _ => true | _ => false) = true)
    (hc : ∀ w, w0.grownBy w none → ∀ av, ArgsOn L w args.toList av → Calls P f av.toArray w fun e w' => ∃ v, e = .returned v ∧ w.grownBy w' none ∧ S.on w' v) (h : ∀ w v, S.on w v → (L d).on w v)
    (hrun : ∀ (av : Array Value) w, ((Deferred.ofValue (.func (.func f) #[] #[]) av).run P w).andThen (fun a w' => (invoke a.target a.args).run P w') = .ok (.enter f av) w) : OX P ops L n w0 o := by
  intro a w hw hl hsz
  unfold OpSays
  rw [if_pos (hg.wanted hl hsz)]
  have hargs : args.map a.eval = (args.toList.map a.eval).toArray := by
    apply Array.ext'; simp
  have hon := ArgsOn.of (o := o) (ops := ops) (a := a) (w := w) hl hn (fun x hx => by simp only [ho, Op.operands, Call.operands]; simp at hx; simp; exact .inr hx)
  have hr : (execOp a.eval o).run P w = .ok (.enter f (args.toList.map a.eval).toArray) w := by
    simp only [execOp, ho, resolve, Act.eval, Sem.run_bind]
    have h1 := hrun (args.map a.eval) w
    rw [hargs] at h1
    first
      | exact h1
      | (rw [hargs]; exact h1)
  rw [hr]
  exact (hc w hw _ hon).mono fun e w' ⟨v, he, hg', hs⟩ => ⟨v, he, hg', dst_on hd (h w' v hs)⟩
/-- new memory: a zero value -/
theorem ox_alloc {T : TypeId} {d B : Nat} {Z : List Value} (hd : o.dst = some d) (hg : GX ops L n o.guard) (hB : B ≤ w0.heap.size)
    (hrun : ∀ (a : Act) w, (execOp a.eval o).run P w = .ok (.value (.pointer (some ⟨w.heap.size, 0, none⟩))) (w.alloc (.cells Z.toArray T)))
    (h : ∀ w v, (Sp.new B Z T).on w v → (L d).on w v) : OX P ops L n w0 o := by
  intro a w hw hl hs
  unfold OpSays
  rw [if_pos (hg.wanted hl hs), hrun a w]
  exact ⟨World.grownBy_alloc _ _ _, dst_on hd (h _ _ ⟨_, rfl, Nat.le_trans hB hw.size, heap_at rfl⟩)⟩
end

/-! ## Comparisons and sums -/
section
variable {P : Program} {k : IntKind} {a b : Int} {t : TypeId} {x y : Operand} {w : World}
theorem rn_lss {r : Bool} (h : decide (a < b) = r) : (do eqGuard .lss t x y (.int k a) (.int k b); binOp .lss t (.int k a) (.int k b) : Sem Value).run P w = .ok (.bool r) w := by subst h; simp [eqGuard, binOp_lss]
theorem rn_leq {r : Bool} (h : decide (a ≤ b) = r) : (do eqGuard .leq t x y (.int k a) (.int k b); binOp .leq t (.int k a) (.int k b) : Sem Value).run P w = .ok (.bool r) w := by subst h; simp [eqGuard, binOp_leq]
theorem rn_gtr {r : Bool} (h : decide (b < a) = r) : (do eqGuard .gtr t x y (.int k a) (.int k b); binOp .gtr t (.int k a) (.int k b) : Sem Value).run P w = .ok (.bool r) w := by subst h; simp [eqGuard, binOp_gtr]
theorem rn_geq {r : Bool} (h : decide (b ≤ a) = r) : (do eqGuard .geq t x y (.int k a) (.int k b); binOp .geq t (.int k a) (.int k b) : Sem Value).run P w = .ok (.bool r) w := by subst h; simp [eqGuard, binOp_geq]
theorem rn_eql {r : Bool} (h : (a == b) = r) : (do eqGuard .eql t x y (.int k a) (.int k b); binOp .eql t (.int k a) (.int k b) : Sem Value).run P w = .ok (.bool r) w := by subst h; simp [eqGuard, binOp_eql]
theorem rn_neq {r : Bool} (h : (a != b) = r) : (do eqGuard .neq t x y (.int k a) (.int k b); binOp .neq t (.int k a) (.int k b) : Sem Value).run P w = .ok (.bool r) w := by subst h; simp [eqGuard, binOp_neq]
theorem rn_not {r : Bool} : (Op.unary .not (.bool r)).run P w = .ok (.bool !r) w := rfl
theorem rn_add {c : Int} (h : k.wrap (a + b) = c) : (do eqGuard .add t x y (.int k a) (.int k b); binOp .add t (.int k a) (.int k b) : Sem Value).run P w = .ok (.int k c) w := by subst h; simp [eqGuard, binOp_add, Op.intArith]
theorem rn_sub {c : Int} (h : k.wrap (a - b) = c) : (do eqGuard .sub t x y (.int k a) (.int k b); binOp .sub t (.int k a) (.int k b) : Sem Value).run P w = .ok (.int k c) w := by subst h; simp [eqGuard, binOp_sub, Op.intArith]
theorem rn_mul {c : Int} (h : k.wrap (a * b) = c) : (do eqGuard .mul t x y (.int k a) (.int k b); binOp .mul t (.int k a) (.int k b) : Sem Value).run P w = .ok (.int k c) w := by subst h; simp [eqGuard, binOp_mul, Op.intArith]
theorem rn_eqlB {p q r : Bool} {w : World} {x y : Operand} (h : (p == q) = r) : (do eqGuard .eql 4 x y (.bool p) (.bool q); binOp .eql 4 (.bool p) (.bool q) : Sem Value).run Try.prog w = .ok (.bool r) w := by subst h; cases p <;> cases q <;> kernel_rfl
theorem wrap_i64 {a : Int} (h1 : -9223372036854775808 ≤ a) (h2 : a ≤ 9223372036854775807) : IntKind.i64.wrap a = a := IntWalk.i64_in a (by omega)
end
end Go.Proofs.Yteakoleceoclkaa
