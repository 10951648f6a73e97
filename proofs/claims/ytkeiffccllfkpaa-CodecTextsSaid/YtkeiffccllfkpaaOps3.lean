/- The operations of a drawn region, in the form that a program prints them. -/
import Derived.Test.YtkeiffccllfkpaaOps
import Derived.Test.YtkeiffccllfkpaaTy
namespace Go.Proofs.Ytkeiffccllfkpaa
open Go.RowKit

/-- bytes in memory, wherever they lie -/
def Sp.sl (l : List Nat) : Sp := ⟨fun w v => Sl w 1 v l.length (bv l), fun _ _ _ hg h => h.kept hg (by cases Value.ownBlock _ <;> simp)⟩
def OpdAll (L : List Sp) (F : List Value) (n : Nat) : List Operand → Prop
  | [] => True
  | x :: l => Opd L F n x ∧ OpdAll L F n l
theorem OpdAll.mem {L : List Sp} {F : List Value} {n : Nat} : ∀ {l : List Operand}, OpdAll L F n l → ∀ x ∈ l, Opd L F n x
  | [], _, x, hx => by cases hx
  | y :: l, h, x, hx => by
    rcases List.mem_cons.1 hx with rfl | hx
    · exact h.1
    · exact h.2.mem x hx
section
variable {P : Program} {ops : Array Oper} {L : List Sp} {n : Nat} {w0 : World} {o : Oper}
theorem ob_ex (F : List Value) (v : Value) (d : Nat) (hd : o.dst = some d) (hv : ∀ w, At L d w v) (hg : GOK ops L n o.guard) (hsel : ∀ cs b, o.op ≠ .select cs b) (hρ : OpdAll L F n o.op.operands.toList)
    (hrun : ∀ w, w0.grownBy w none → (execOp (Act.eval ⟨F.toArray, []⟩) o).run P w = .ok (.value v) w) : Ob P ops L n w0 o :=
  ob_exact F v d hd hv hg hsel hρ.mem hrun
theorem ob_fn (F : List Value) (f : Nat) (d : Nat) (args : Array Operand) (tys : Array TypeId) (ho : o.op = .call { callee := .value (.func f), args := args, argTypes := tys }) (hd : o.dst = some d) (hg : GOK ops L n o.guard)
    (hρ : OpdAll L F n args.toList)
    (hc : ∀ w, w0.grownBy w none → Calls P f (args.map (Act.eval ⟨F.toArray, []⟩)) w fun e w' => ∃ v, e = .returned v ∧ w.grownBy w' none ∧ At L d w' v)
    (hrun : ∀ (av : Array Value) w, ((Deferred.ofValue (.func (.func f) #[] #[]) av).run P w).andThen (fun a w' => (invoke a.target a.args).run P w') = .ok (.enter f av) w) : Ob P ops L n w0 o :=
  ob_call F f d args tys ho hd hg hρ.mem hc hrun
/-- the number of elements of a slice -/
theorem ob_len (s d m : Nat) (t : TypeId) (e : TypeId) (he : P.underlying t = some (.slice e)) (ho : o.op = .call { callee := .builtin .len, args := #[.tmp s], argTypes := #[t] }) (hd : o.dst = some d) (hs : s < n) (hg : GOK ops L n o.guard)
    (h : ∀ w v, w0.grownBy w none → At L s w v → ∃ ao c, v = .slice ao m c) (hv : ∀ w, At L d w (.int .i64 m)) : Ob P ops L n w0 o := by
  refine ob_run hg fun a w hw hl hsz => ⟨.int .i64 m, ?_, fun d' hd' => ?_⟩
  · obtain ⟨ao, c, hx⟩ := h w _ hw (hl s (by simp [Oper.looksAt, ho, Op.operands, Call.operands]) hs)
    simp only [execOp, ho, resolve, Sem.run_bind, Sem.run_pure, Result.andThen_ok, List.map_toArray, List.map_cons, List.map_nil, Act.eval, hx]
    simp [invoke, builtin, Builtin.len_, run_underlying he, goInt]
  · rw [hd] at hd'
    obtain rfl := Option.some.inj hd'
    exact hv w
/-- an operand whose value is known -/
def OpdIs (L : List Sp) (n : Nat) : Operand → Value → Prop
  | .tmp t, v => t < n ∧ ∀ w u, At L t w u → u = v
  | .const c, v => c = v
  | _, _ => False
theorem OpdIs.eval {x : Operand} {v : Value} (h : OpdIs L n x v) {a : Act} {w : World} (hx : x ∈ o.op.operands.toList) (hl : ∀ t ∈ o.looksAt ops, t < n → At L t w (a.tmps.getD t undef)) : a.eval x = v := by
  cases x with
  | tmp t => exact h.2 w _ (hl t (by simp only [Oper.looksAt, List.mem_append, List.mem_filterMap]; exact .inl ⟨.tmp t, by simpa using hx, rfl⟩) h.1)
  | const c => exact h
  | global g => exact h.elim
  | func f => exact h.elim
theorem ob_bin {b : BinOp} {ty ty2 : TypeId} {x y : Operand} {vx vy v : Value} {d : Nat} (ho : o.op = .binOp b ty x y ty2) (hd : o.dst = some d) (hg : GOK ops L n o.guard) (hx : OpdIs L n x vx) (hy : OpdIs L n y vy)
    (hrun : ∀ w, (do eqGuard b ty x y vx vy; binOp b ty vx vy : Sem Value).run P w = .ok v w) (hv : ∀ w, At L d w v) : Ob P ops L n w0 o := by
  refine ob_run hg fun a w hw hl hsz => ⟨v, ?_, fun d' hd' => ?_⟩
  · have e1 := hx.eval (o := o) (by simp [ho, Op.operands]) hl
    have e2 := hy.eval (o := o) (by simp [ho, Op.operands]) hl
    simp only [execOp, ho, e1, e2]
    have := hrun w
    simp only [Sem.run_bind] at this ⊢
    rw [this]
    rfl
  · rw [hd] at hd'
    obtain rfl := Option.some.inj hd'
    exact hv w
theorem ob_eqS {ty ty2 : TypeId} {x y : Operand} {a b : ByteArray} {d : Nat} (ho : o.op = .binOp .eql ty x y ty2) (hd : o.dst = some d) (hg : GOK ops L n o.guard) (hx : OpdIs L n x (.string a)) (hy : OpdIs L n y (.string b)) (hab : a = b) (hv : ∀ w, At L d w (.bool true)) : Ob P ops L n w0 o :=
  ob_bin ho hd hg hx hy (fun w => by subst hab; simp [eqGuard, binOp_string_eql]) hv
theorem ob_eqI {ty ty2 : TypeId} {x y : Operand} {k : IntKind} {a b : Int} {d : Nat} (ho : o.op = .binOp .eql ty x y ty2) (hd : o.dst = some d) (hg : GOK ops L n o.guard) (hx : OpdIs L n x (.int k a)) (hy : OpdIs L n y (.int k b)) (hab : a = b) (hv : ∀ w, At L d w (.bool true)) : Ob P ops L n w0 o :=
  ob_bin ho hd hg hx hy (fun w => by subst hab; simp [eqGuard, binOp_eql]) hv
theorem ob_addS {ty ty2 : TypeId} {x y : Operand} {a b : ByteArray} {d : Nat} (ho : o.op = .binOp .add ty x y ty2) (hd : o.dst = some d) (hg : GOK ops L n o.guard) (hx : OpdIs L n x (.string a)) (hy : OpdIs L n y (.string b)) (hab : a.size + b.size ≤ 1099511627776) (hv : ∀ w, At L d w (.string (a ++ b))) : Ob P ops L n w0 o :=
  ob_bin ho hd hg hx hy (fun w => by
    have h : ¬ (((a.size + b.size : Nat) : Int) > IntKind.i64.max) := by
      have : IntKind.i64.max = 9223372036854775807 := by decide
      rw [this]; omega
    simp only [eqGuard, binOp_string_add, Op.stringOp, if_neg h, Sem.run_bind]
    rfl) hv
theorem ob_pick {x y z : Operand} {v : Value} {d : Nat} (ho : o.op = .pick x y z) (hd : o.dst = some d) (hg : GOK ops L n o.guard) (hx : OpdIs L n x (.bool true)) (hy : OpdIs L n y v) (hv : ∀ w, At L d w v) : Ob P ops L n w0 o := by
  refine ob_run hg fun a w hw hl hsz => ⟨v, ?_, fun d' hd' => ?_⟩
  · have e1 := hx.eval (o := o) (by simp [ho, Op.operands]) hl
    have e2 := hy.eval (o := o) (by simp [ho, Op.operands]) hl
    simp [execOp, ho, e1, e2, asBool]
  · rw [hd] at hd'
    obtain rfl := Option.some.inj hd'
    exact hv w
def OpdIsAll (L : List Sp) (n : Nat) : List Operand → List Value → Prop
  | [], [] => True
  | x :: l, v :: vs => OpdIs L n x v ∧ OpdIsAll L n l vs
  | _, _ => False
theorem OpdIsAll.eval : ∀ {l : List Operand} {vs : List Value}, OpdIsAll L n l vs → ∀ {a : Act} {w : World}, (∀ x ∈ l, x ∈ o.op.operands.toList) → (∀ t ∈ o.looksAt ops, t < n → At L t w (a.tmps.getD t undef)) → l.map a.eval = vs
  | [], [], _, _, _, _, _ => rfl
  | x :: l, v :: vs, h, a, w, hx, hl => by
    rw [List.map_cons, OpdIs.eval (o := o) h.1 (hx x List.mem_cons_self) hl, OpdIsAll.eval h.2 (fun y hy => hx y (List.mem_cons_of_mem _ hy)) hl]
  | [], _ :: _, h, _, _, _, _ => h.elim
  | _ :: _, [], h, _, _, _, _ => h.elim
/-- a call of a function, its arguments known -/
theorem ob_call2 (av : List Value) {f : Nat} {d : Nat} {args : Array Operand} {tys : Array TypeId} (ho : o.op = .call { callee := .value (.func f), args := args, argTypes := tys }) (hd : o.dst = some d) (hg : GOK ops L n o.guard)
    (hρ : OpdIsAll L n args.toList av)
    (hc : ∀ w, w0.grownBy w none → Calls P f av.toArray w fun e w' => ∃ v, e = .returned v ∧ w.grownBy w' none ∧ At L d w' v)
    (hrun : ∀ (av : Array Value) w, ((Deferred.ofValue (.func (.func f) #[] #[]) av).run P w).andThen (fun a w' => (invoke a.target a.args).run P w') = .ok (.enter f av) w) : Ob P ops L n w0 o := by
  intro a w hw hl hsz
  unfold OpSays
  rw [if_pos (hg.wanted hl hsz)]
  have hargs : args.map a.eval = av.toArray := by
    have := hρ.eval (o := o) (fun x hx => by simp only [ho, Op.operands, Call.operands]; simp at hx; simp; exact .inr hx) hl
    rw [← this]
    apply Array.ext'
    simp
  have hr : (execOp a.eval o).run P w = .ok (.enter f av.toArray) w := by
    simp only [execOp, ho, resolve, Act.eval, Sem.run_bind]
    have h1 := hrun (args.map a.eval) w
    rw [hargs] at h1
    first
      | exact h1
      | (rw [hargs]; exact h1)
  rw [hr]
  exact (hc w hw).mono fun e w' ⟨v, he, hg', hv⟩ => ⟨v, he, hg', fun d' hd' => by rw [hd] at hd'; obtain rfl := Option.some.inj hd'; exact hv⟩
theorem ob_const {c : Value} {d : Nat} (ho : o.op = .move (.const c) ∨ o.op = .assign (.const c)) (hd : o.dst = some d) (hg : GOK ops L n o.guard) (hv : ∀ w, At L d w c) : Ob P ops L n w0 o := by
  refine ob_run hg fun a w hw hl hsz => ⟨c, ?_, fun d' hd' => ?_⟩
  · rcases ho with ho | ho <;> simp [execOp, ho, Act.eval]
  · rw [hd] at hd'
    obtain rfl := Option.some.inj hd'
    exact hv w
theorem rangeAt_kept {w w' : World} {b o : Nat} {cs : List Value} (h : w.rangeAt b o cs) (hg : w.grownBy w' none) : w'.rangeAt b o cs := fun j v hj => hg.cell (h j v hj) (by simp)
theorem ob_load {ty : TypeId} {x : Operand} {b off d : Nat} {v : Value} {cs : List Value} (ho : o.op = .load ty x) (hd : o.dst = some d) (hg : GOK ops L n o.guard) (hx : OpdIs L n x (.pointer (some ⟨b, off, none⟩)))
    (hT : TY P ty cs v) (hc : w0.rangeAt b off cs) (hv : ∀ w, w0.grownBy w none → At L d w v) : Ob P ops L n w0 o := by
  refine ob_run hg fun a w hw hl hsz => ⟨v, ?_, fun d' hd' => ?_⟩
  · have e1 := hx.eval (o := o) (by simp [ho, Op.operands]) hl
    simp only [execOp, ho, e1, Instr.loadAt, Instr.sureAddr, Sem.run_bind, Sem.run_pure, Result.andThen_ok, hT.load w b off (rangeAt_kept hc hw)]
  · rw [hd] at hd'
    obtain rfl := Option.some.inj hd'
    exact hv w hw
theorem ob_nilCheck {x : Operand} {a0 : Addr} {d : Nat} (ho : o.op = .nilCheck x) (hd : o.dst = some d) (hg : GOK ops L n o.guard) (hx : OpdIs L n x (.pointer (some a0))) (hv : ∀ w, At L d w (.pointer (some a0))) : Ob P ops L n w0 o := by
  refine ob_run hg fun a w hw hl hsz => ⟨.pointer (some a0), ?_, fun d' hd' => ?_⟩
  · have e1 := hx.eval (o := o) (by simp [ho, Op.operands]) hl
    simp only [execOp, ho, e1, Sem.run_pure]
  · rw [hd] at hd'
    obtain rfl := Option.some.inj hd'
    exact hv w
theorem ob_fieldAddr {ty : TypeId} {x : Operand} {k d : Nat} {p v : Value} (ho : o.op = .fieldAddr ty x k) (hd : o.dst = some d) (hg : GOK ops L n o.guard) (hx : OpdIs L n x p) (hrun : ∀ w, (Instr.fieldAt ty p k).run P w = .ok v w) (hv : ∀ w, At L d w v) : Ob P ops L n w0 o := by
  refine ob_run hg fun a w hw hl hsz => ⟨v, ?_, fun d' hd' => ?_⟩
  · have e1 := hx.eval (o := o) (by simp [ho, Op.operands]) hl
    simp only [execOp, ho, e1, Sem.run_bind, Sem.run_pure, Result.andThen_ok, hrun w]
  · rw [hd] at hd'
    obtain rfl := Option.some.inj hd'
    exact hv w
end
end Go.Proofs.Ytkeiffccllfkpaa
