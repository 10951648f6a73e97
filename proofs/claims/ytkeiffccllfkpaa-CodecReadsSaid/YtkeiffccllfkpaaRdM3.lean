import Derived.Test.YtkeiffccllfkpaaRdM1
import Derived.Test.YtkeiffccllfkpaaRdM2
import Derived.WalkKit
import Derived.ProofKit
import Derived.OpenShut
import Derived.ShutString
import Derived.ChangeOld
import Derived.Below
set_option linter.unusedSimpArgs false
set_option linter.unusedVariables false
set_option maxRecDepth 100000
/- What the laws stand on; appenders. (merged by merge.py) -/
namespace Go.Proofs.Ytkeiffccllfkpaa
/-! ## Ops3 -/
section
open Go.RowKit
def Sp.sl (l : List Nat) : Sp := ⟨fun w v => Sl w 1 v l.length (bv l), fun _ _ _ hg h => h.kept hg (by cases Value.ownBlock _ <;> simp)⟩
section
variable {P : Program} {ops : Array Oper} {L : List Sp} {n : Nat} {w0 : World} {o : Oper}
def OpdIs (L : List Sp) (n : Nat) : Operand → Value → Prop
 | .tmp t, v => t < n ∧ ∀ w u, At L t w u → u = v
 | .const c, v => c = v
 | _, _ => False
theorem OpdIs.eval {x : Operand} {v : Value} (h : OpdIs L n x v) {a : Act} {w : World} (hx : x ∈ o.op.operands.toList) (hl : ∀ t ∈ o.looksAt ops, t < n → At L t w (a.tmps.getD t undef)) : a.eval x = v := by
 cases x with
 | tmp t => exact h.2 w _ (hl t (by simp only [Oper.looksAt, List.mem_append, List.mem_filterMap]; exact .inl ⟨.tmp t, by simpa using hx, rfl⟩) h.1)
 | const c => exact h
 | global g => exact h.elim
 | func f => exact h.elim
theorem ob_bin {b : BinOp} {ty ty2 : TypeId} {x y : Operand} {vx vy v : Value} {d : Nat} (ho : o.op = .binOp b ty x y ty2) (hd : o.dst = some d) (hg : GOK ops L n o.guard) (hx : OpdIs L n x vx) (hy : OpdIs L n y vy)
   (hrun : ∀ w, (do eqGuard b ty x y vx vy; binOp b ty vx vy : Sem Value).run P w = .ok v w) (hv : ∀ w, At L d w v) : Ob P ops L n w0 o := by
 refine ob_run hg fun a w hw hl hsz => ⟨v, ?_, fun d' hd' => ?_⟩
 · have e1 := hx.eval (o := o) (by simp [ho, Op.operands]) hl
   have e2 := hy.eval (o := o) (by simp [ho, Op.operands]) hl
   simp only [execOp, ho, e1, e2]
   have := hrun w
   simp only [Sem.run_bind] at this ⊢
   rw [this]
   rfl
 · rw [hd] at hd'
   obtain rfl := Option.some.inj hd'
   exact hv w
theorem ob_eqS {ty ty2 : TypeId} {x y : Operand} {a b : ByteArray} {d : Nat} (ho : o.op = .binOp .eql ty x y ty2) (hd : o.dst = some d) (hg : GOK ops L n o.guard) (hx : OpdIs L n x (.string a)) (hy : OpdIs L n y (.string b)) (hab : a = b) (hv : ∀ w, At L d w (.bool true)) : Ob P ops L n w0 o :=
 ob_bin ho hd hg hx hy (fun w => by subst hab; simp [eqGuard, binOp_string_eql]) hv
theorem ob_eqI {ty ty2 : TypeId} {x y : Operand} {k : IntKind} {a b : Int} {d : Nat} (ho : o.op = .binOp .eql ty x y ty2) (hd : o.dst = some d) (hg : GOK ops L n o.guard) (hx : OpdIs L n x (.int k a)) (hy : OpdIs L n y (.int k b)) (hab : a = b) (hv : ∀ w, At L d w (.bool true)) : Ob P ops L n w0 o :=
 ob_bin ho hd hg hx hy (fun w => by subst hab; simp [eqGuard, binOp_eql]) hv
theorem ob_pick {x y z : Operand} {v : Value} {d : Nat} (ho : o.op = .pick x y z) (hd : o.dst = some d) (hg : GOK ops L n o.guard) (hx : OpdIs L n x (.bool true)) (hy : OpdIs L n y v) (hv : ∀ w, At L d w v) : Ob P ops L n w0 o := by
 refine ob_run hg fun a w hw hl hsz => ⟨v, ?_, fun d' hd' => ?_⟩
 · have e1 := hx.eval (o := o) (by simp [ho, Op.operands]) hl
   have e2 := hy.eval (o := o) (by simp [ho, Op.operands]) hl
   simp [execOp, ho, e1, e2, asBool]
 · rw [hd] at hd'
   obtain rfl := Option.some.inj hd'
   exact hv w
def OpdIsAll (L : List Sp) (n : Nat) : List Operand → List Value → Prop
 | [], [] => True
 | x :: l, v :: vs => OpdIs L n x v ∧ OpdIsAll L n l vs
 | _, _ => False
theorem OpdIsAll.eval : ∀ {l : List Operand} {vs : List Value}, OpdIsAll L n l vs → ∀ {a : Act} {w : World}, (∀ x ∈ l, x ∈ o.op.operands.toList) → (∀ t ∈ o.looksAt ops, t < n → At L t w (a.tmps.getD t undef)) → l.map a.eval = vs
 | [], [], _, _, _, _, _ => rfl
 | x :: l, v :: vs, h, a, w, hx, hl => by
   rw [List.map_cons, OpdIs.eval (o := o) h.1 (hx x List.mem_cons_self) hl, OpdIsAll.eval h.2 (fun y hy => hx y (List.mem_cons_of_mem _ hy)) hl]
 | [], _ :: _, h, _, _, _, _ => h.elim
 | _ :: _, [], h, _, _, _, _ => h.elim
theorem ob_call2 (av : List Value) {f : Nat} {d : Nat} {args : Array Operand} {tys : Array TypeId} (ho : o.op = .call { callee := .value (.func f), args := args, argTypes := tys }) (hd : o.dst = some d) (hg : GOK ops L n o.guard)
   (hρ : OpdIsAll L n args.toList av)
   (hc : ∀ w, w0.grownBy w none → Calls P f av.toArray w fun e w' => ∃ v, e = .returned v ∧ w.grownBy w' none ∧ At L d w' v)
   (hrun : ∀ (av : Array Value) w, ((Deferred.ofValue (.func (.func f) #[] #[]) av).run P w).andThen (fun a w' => (invoke a.target a.args).run P w') = .ok (.enter f av) w) : Ob P ops L n w0 o := by
 intro a w hw hl hsz
 unfold OpSays
 rw [if_pos (hg.wanted hl hsz)]
 have hargs : args.map a.eval = av.toArray := by
   have := hρ.eval (o := o) (fun x hx => by simp only [ho, Op.operands, Call.operands]; simp at hx; simp; exact .inr hx) hl
   rw [← this]
   apply Array.ext'
   simp
 have hr : (execOp a.eval o).run P w = .ok (.enter f av.toArray) w := by
   simp only [execOp, ho, resolve, Act.eval, Sem.run_bind]
   have h1 := hrun (args.map a.eval) w
   rw [hargs] at h1
   first
     | exact h1
     | (rw [hargs]; exact h1)
 rw [hr]
 exact (hc w hw).mono fun e w' ⟨v, he, hg', hv⟩ => ⟨v, he, hg', fun d' hd' => by rw [hd] at hd'; obtain rfl := Option.some.inj hd'; exact hv⟩
theorem rangeAt_kept {w w' : World} {b o : Nat} {cs : List Value} (h : w.rangeAt b o cs) (hg : w.grownBy w' none) : w'.rangeAt b o cs := fun j v hj => hg.cell (h j v hj) (by simp)
theorem ob_load {ty : TypeId} {x : Operand} {b off d : Nat} {v : Value} {cs : List Value} (ho : o.op = .load ty x) (hd : o.dst = some d) (hg : GOK ops L n o.guard) (hx : OpdIs L n x (.pointer (some ⟨b, off, none⟩)))
   (hT : TY P ty cs v) (hc : w0.rangeAt b off cs) (hv : ∀ w, w0.grownBy w none → At L d w v) : Ob P ops L n w0 o := by
 refine ob_run hg fun a w hw hl hsz => ⟨v, ?_, fun d' hd' => ?_⟩
 · have e1 := hx.eval (o := o) (by simp [ho, Op.operands]) hl
   simp only [execOp, ho, e1, Instr.loadAt, Instr.sureAddr, Sem.run_bind, Sem.run_pure, Result.andThen_ok, hT.load w b off (rangeAt_kept hc hw)]
 · rw [hd] at hd'
   obtain rfl := Option.some.inj hd'
   exact hv w hw
theorem ob_nilCheck {x : Operand} {a0 : Addr} {d : Nat} (ho : o.op = .nilCheck x) (hd : o.dst = some d) (hg : GOK ops L n o.guard) (hx : OpdIs L n x (.pointer (some a0))) (hv : ∀ w, At L d w (.pointer (some a0))) : Ob P ops L n w0 o := by
 refine ob_run hg fun a w hw hl hsz => ⟨.pointer (some a0), ?_, fun d' hd' => ?_⟩
 · have e1 := hx.eval (o := o) (by simp [ho, Op.operands]) hl
   simp only [execOp, ho, e1, Sem.run_pure]
 · rw [hd] at hd'
   obtain rfl := Option.some.inj hd'
   exact hv w
theorem ob_fieldAddr {ty : TypeId} {x : Operand} {k d : Nat} {p v : Value} (ho : o.op = .fieldAddr ty x k) (hd : o.dst = some d) (hg : GOK ops L n o.guard) (hx : OpdIs L n x p) (hrun : ∀ w, (Instr.fieldAt ty p k).run P w = .ok v w) (hv : ∀ w, At L d w v) : Ob P ops L n w0 o := by
 refine ob_run hg fun a w hw hl hsz => ⟨v, ?_, fun d' hd' => ?_⟩
 · have e1 := hx.eval (o := o) (by simp [ho, Op.operands]) hl
   simp only [execOp, ho, e1, Sem.run_bind, Sem.run_pure, Result.andThen_ok, hrun w]
 · rw [hd] at hd'
   obtain rfl := Option.some.inj hd'
   exact hv w
end
end
/-! ## Law0 -/
section
open Go.RowKit
theorem grown_newR {a b c : World} {R : Nat} (h : a.grownBy b none) (k : b.grownBy c (some R)) (hR : a.heap.size ≤ R) : a.grownBy c none :=
 ⟨k.os.trans h.os, k.tape.trans h.tape, k.output.trans h.output, Nat.le_trans h.size k.size, fun i hi _ =>
   (k.block i (Nat.lt_of_lt_of_le hi h.size) (by simp; omega)).trans (h.block i hi (by simp))⟩
theorem lit_sl (w : World) (l : List Nat) (t : TypeId) (hl : l.length ≤ 1099511627776) : Sl (w.alloc (.cells (bv l).toArray t)) 1 (.slice (some ⟨w.heap.size, 0, none⟩) l.length l.length) l.length (bv l) :=
 ⟨by simp [bv], _, _, rfl, Nat.le_refl _, by unfold maxLen; omega, fun h => (by cases h), fun a ha => by
   obtain rfl := Option.some.inj ha
   refine ⟨rfl, fun j u hu => ?_⟩
   rw [Nat.zero_add, World.cell?_alloc_at _ _ _ _ rfl]
   simpa using hu⟩
theorem lit_lo (w : World) (n c : Nat) (o : Obj) : Lo (.slice (some ⟨w.heap.size, 0, none⟩) n c) (w.alloc o).heap.size := fun k hk => by
 simp [Value.ownBlock] at hk
 subst hk; simp
theorem ReadPost.ok {α : Type} {p : Parser α} {xs r : List Nat} {zero : Value} {rep : Nat → World → Value → α → Prop} {w w' : World} {en : Ending} {x : α} (h : ReadPost p xs zero rep w en w') (hp : p xs = .ok (x, r)) :
   w.grownBy w' none ∧ ∃ v rv, en = .returned (.tuple #[v, rv, .int .i64 0]) ∧ rep w.heap.size w' v x ∧ Sl w' 1 rv r.length (bv r) ∧ ∀ k, rv.ownBlock = some k → w.heap.size ≤ k := by
 unfold ReadPost at h
 rw [hp] at h
 exact h
theorem ReadPost.err {α : Type} {p : Parser α} {xs : List Nat} {zero : Value} {rep : Nat → World → Value → α → Prop} {w w' : World} {en : Ending} {n : Nat} (h : ReadPost p xs zero rep w en w') (hp : p xs = .error n) :
   w.grownBy w' none ∧ en = .returned (.tuple #[zero, nilS, .int .i64 n]) := by
 unfold ReadPost at h
 rw [hp] at h
 exact ⟨h.1, h.2.1⟩
theorem awake_walk (w : World) : Calls Try.prog 18 #[] w fun e w' => e = .returned (.bool true) ∧ w.grownBy w' none := by
 have p1 : pInt [128, 0] = .error 1 := by rfl
 have p2 : pInt [128] = .error 100 := by rfl
 have p3 : pInt [128, 1, 7] = .ok (64, [7]) := by rfl
 have P1 := hid p1
 have P2 := hid p2
 have P3 := hid p3
 clear p1 p2 p3
 go_enter Try.func18, Try.ntmps18
 go_wp2_with fail
 refine (readInt_walk _ [128, 0] _ (lit_sl w [128, 0] 5 (by decide)) (by decide) (by decide) (lit_lo _ _ _ _)).mono ?_
 intro e w1 h1
 obtain ⟨g1, rfl⟩ := h1.err P1.out
 have G1 := grown_alloc g1
 clear h1 g1
 go_wp2_with fail
 refine (readInt_walk _ [128] _ (lit_sl w1 [128] 5 (by decide)) (by decide) (by decide) (lit_lo _ _ _ _)).mono ?_
 intro e w2 h2
 obtain ⟨g2, rfl⟩ := h2.err P2.out
 have G2 := grown_trans G1 (grown_alloc g2)
 clear h2 g2 G1
 go_wp2_with fail
 refine (readInt_walk _ [128, 1, 7] _ (lit_sl w2 [128, 1, 7] 5 (by decide)) (by decide) (by decide) (lit_lo _ _ _ _)).mono ?_
 intro e w3 h3
 obtain ⟨g3, v3, rv3, rfl, ⟨rfl, _⟩, hs3, _⟩ := h3.ok P3.out
 have G3 := grown_trans G2 (grown_alloc g3)
 obtain ⟨ao, cap, rfl, _, _⟩ := hs3.shape
 clear h3 g3 G2 hs3
 go_wp2_with fail
 refine (appendInt_walk nilS (-1) [] _ (Sl.nil _ _) (fun k hk => by simp [Value.ownBlock] at hk) (by decide) (by decide) (by decide)).mono ?_
 rintro e w4 ⟨v4, rfl, hown4, hg4⟩
 have hc := run_conv (P := Try.prog) 22 9 5 Try.underlying22 Try.underlying5 Try.underlying9 (Sl.of_own hown4)
 have e1 : bs ([] ++ enc (-1)) = ⟨#[1]⟩ := by
   have : enc (-1) = [1] := by unfold enc zig; rw [leb_small (by decide)]; rfl
   rw [this]; rfl
 rw [e1] at hc
 have G4 := grown_trans G3 hg4.1
 clear hown4 hg4 e1 G3
 go_wp2
 go_ret
 exact ⟨rfl, G4⟩
end
/-! ## Frame -/
section
open Go.ChangeShapes Go.WideShapes Go.ChangeAt Go.RowKit
open Go.ChangeMaps (open_string shut_string)
theorem own : ownKnob Try.prog.godebug = none := by kernel_rfl
theorem laidOut : laidOutB Try.prog = true := by kernel_rfl
theorem slice_lo {P : Program} {W : World} {r : Reach} {base : Nat} {t e : TypeId} {a : Option Addr} {len cap : Nat} (ht : P.underlying t = some (.slice e)) (h : Value.okWide P W r base t (.slice a len cap)) :
   Lo (.slice a len cap) W.heap.size ∧ (∀ x, a = some x → x.spot = none) ∧ len ≤ cap ∧ cap ≤ maxLen ∧ (a = none → cap = 0) := by
 simp only [Value.okWide, ht, Cell.okWide] at h
 cases a with
 | none =>
   have : len = 0 ∧ cap = 0 := by
     cases len with
     | zero => cases cap with
       | zero => exact ⟨rfl, rfl⟩
       | succ n => simp [Cell.ok, ht] at h
     | succ n => simp [Cell.ok, ht] at h
   obtain ⟨rfl, rfl⟩ := this
   exact ⟨fun k hk => (by simp [Value.ownBlock] at hk), fun x hx => (by cases hx), Nat.le_refl _, Nat.zero_le _, fun _ => rfl⟩
 | some x =>
   simp only [Cell.ok, ht] at h
   obtain ⟨h1, h2, _, h3, row, cells, h4, _⟩ := h
   refine ⟨fun k hk => ?_, fun y hy => (by cases hy; exact h3), h1, ?_, fun h => (by cases h)⟩
   · simp [Value.ownBlock] at hk
     subst hk
     unfold World.shape? at h4
     cases hb : W.heap[x.block]? with
     | none => simp [hb] at h4
     | some o => exact (Array.getElem?_eq_some_iff.1 hb).1
   · have : IntKind.i64.max = 9223372036854775807 := by decide
     unfold maxLen
     omega
theorem open_bytes {H : Type} {enc : TypeId × Value → H} {W : World} {r : Reach} {base b0 : Nat} {v : Value} {d : DataW H} {p : List MemPlace} (hv : Value.okWide Try.prog W r base 22 v) (h : DataW.Trod enc Try.prog W b0 (fun _ => true) true 22 v d p) :
   ∃ xs : List Nat, Sl W 1 v xs.length (bv xs) ∧ Lo v W.heap.size ∧ ∀ x ∈ xs, x < 256 := by
 obtain ⟨a, len, cap, rfl⟩ := okWide_slice Try.underlying22 hv
 obtain ⟨l1, l2, l3, l4, l5⟩ := slice_lo Try.underlying22 hv
 obtain ⟨fuel, hf⟩ := h
 rcases open_ints Try.underlying22 Try.underlying5 (by kernel_rfl) hf with ⟨hcs, _⟩ | ⟨x, l, c, zs, hcs, _, hl, hm, hz, _, hcell, hwz⟩
 · simp [Value.cells] at hcs
   obtain ⟨rfl, rfl, rfl⟩ := hcs
   exact ⟨[], Sl.nil _ _, l1, by simp⟩
 · simp [Value.cells] at hcs
   obtain ⟨rfl, rfl, rfl⟩ := hcs
   have hs := l2 x rfl
   obtain ⟨b, off, spot⟩ := x
   simp only at hs
   subst hs
   have hz' : zs.length = cap := by simpa using hz
   have hr : ∀ n ∈ zs, 0 ≤ n ∧ n ≤ 255 := fun n hn => by
     have := hwz n hn
     simp [Lit.wf] at this
     have e1 : IntKind.u8.min = 0 := by decide
     have e2 : IntKind.u8.max = 255 := by decide
     omega
   have hlen : (zs.take len).length = len := by simp; omega
   refine ⟨(zs.take len).map Int.toNat, ?_, l1, ?_⟩
   · rw [List.length_map, hlen]
     refine ⟨by rw [bv_length, List.length_map, hlen, Nat.mul_one], _, _, rfl, hl, hm, fun h => (by cases h), fun a ha => ?_⟩
     obtain rfl := Option.some.inj ha
     refine ⟨rfl, fun j u hu => ?_⟩
     have hj : j < len := by have := (List.getElem?_eq_some_iff.1 hu).1; rwa [bv_length, List.length_map, hlen] at this
     have hc := hcell j (by omega)
     rw [Addr.add_lit] at hc
     rw [hc, ← hu]
     simp only [bv, List.getElem?_map, List.getElem?_take, if_pos hj]
     have hjz : j < zs.length := by omega
     rw [List.getElem?_eq_getElem hjz, List.getD_eq_getElem?_getD, List.getElem?_eq_getElem hjz]
     have := hr zs[j] (List.getElem_mem hjz)
     simp
     omega
   · intro y hy
     simp only [List.mem_map] at hy
     obtain ⟨n, hn, rfl⟩ := hy
     have := hr n (List.mem_of_mem_take hn)
     omega
end
/-! ## Lin -/
section
open Go.RowKit
def URow (E : TypeId) (B : Nat) (w w' : World) : Prop := ∃ row : Option Nat, w.grownBy w' row ∧ ∀ k, row = some k → B ≤ k ∧ ∃ c fr, w.heap[k]? = some (.cells c E fr)
theorem URow.quiet {E : TypeId} {B : Nat} {w w' : World} (h : w.grownBy w' none) : URow E B w w' := ⟨Option.none, h, fun k hk => by cases hk⟩
theorem URow.below {E : TypeId} {B : Nat} {w w' : World} (h : URow E B w w') (hB : B ≤ w.heap.size) : Below B w w' := by
 obtain ⟨row, hg, hr⟩ := h
 exact (Below.refl B w).grown hg hB fun k hk => (hr k hk).1
theorem URow.row {E T : TypeId} {B : Nat} {w w' : World} (h : URow E B w w') (hne : T ≠ E) {k : Nat} {c : Array Value} {fr : Nat × Nat} (hk : w.heap[k]? = some (.cells c T fr)) : w'.heap[k]? = some (.cells c T fr) := by
 obtain ⟨row, hg, hr⟩ := h
 refine (hg.block k (Array.getElem?_eq_some_iff.1 hk).1 fun e => ?_).trans hk
 obtain ⟨_, c', fr', h'⟩ := hr k e.symm
 rw [hk] at h'
 simp at h'
 exact hne h'.2.1
theorem URow.size {E : TypeId} {B : Nat} {w w' : World} (h : URow E B w w') : w.heap.size ≤ w'.heap.size := by obtain ⟨_, hg, _⟩ := h; exact hg.size
structure Fk (E : TypeId) (B : Nat) where
 on : World → Value → Prop
 lin : Bool
 m0 : ∀ w w' v, w.grownBy w' none → on w v → on w' v
 m1 : lin = false → ∀ w w' v, URow E B w w' → on w v → on w' v
def ahead (ops : Array Oper) : Nat → Nat → Nat → Bool
 | 0, _, _ => false
 | f + 1, i, j => match ops[i]? with
   | none => false
   | some o => o.after.toList.any fun e => Region.binds .any e && (e.on == j || ahead ops f e.on j)
def writer (ops : Array Oper) (t : Nat) : Option Nat := (List.range ops.size).find? fun i => match ops[i]? with | none => false | some o => o.dst == some t
def looks (ops : Array Oper) (i t : Nat) : Bool := match ops[i]? with | none => false | some o => (o.looksAt ops).contains t
def late (ops : Array Oper) (i t : Nat) : Bool := match writer ops t with | none => false | some j => ahead ops ops.size i j
def linB (ops : Array Oper) (n : Nat) (q : List Bool) (l0 l1 : List Bool) (E : List Nat) : Bool :=
 ((List.range ops.size).all fun i => match ops[i]? with
   | none => true
   | some o => (o.after.toList.all fun e => decide (e.on < i)) && (match o.dst with | none => true | some d => decide (d < n) && writer ops d == some i) &&
     ((List.range n).all fun t => !looks ops i t || match writer ops t with | none => true | some j => j == i || ahead ops ops.size i j || ahead ops ops.size j i) &&
     (q.getD i false || (List.range n).all fun t =>
       (!l0.getD t false || (List.range ops.size).all fun k => !looks ops k t || late ops k t || k == i || ahead ops ops.size i k) &&
       (!l1.getD t false || match writer ops t with
         | none => true
         | some j => j == i || ahead ops ops.size j i || (List.range ops.size).all fun k => !looks ops k t || !late ops k t || k == i || ahead ops ops.size i k))) &&
 E.all fun t => decide (t < n) && match writer ops t with
   | none => !l0.getD t false || (List.range ops.size).all fun i => q.getD i false
   | some j => !l1.getD t false || (List.range ops.size).all fun i => q.getD i false || i == j || ahead ops ops.size j i
theorem ahead_closed {ops : Array Oper} {S : Nat → Bool} (hS : ∀ (i : Nat) (o : Oper), S i = true → ops[i]? = some o → ∀ e ∈ o.after.toList, Region.binds .any e = true → S e.on = true) : ∀ (f i j : Nat), ahead ops f i j = true → S i = true → S j = true
 | 0, i, j, h, _ => by simp [ahead] at h
 | f + 1, i, j, h, hi => by
   unfold ahead at h
   split at h
   · cases h
   · rename_i o ho
     obtain ⟨e, he, h⟩ := List.any_eq_true.1 h
     simp only [Bool.and_eq_true, Bool.or_eq_true, beq_iff_eq] at h
     have := hS i o hi ho e he h.1
     rcases h.2 with h2 | h2
     · rw [← h2]; exact this
     · exact ahead_closed hS f e.on j h2 this
theorem ahead_lt {ops : Array Oper} (hb : ∀ (i : Nat) (o : Oper), ops[i]? = some o → ∀ e ∈ o.after.toList, e.on < i) : ∀ (f i j : Nat), ahead ops f i j = true → j < i
 | 0, i, j, h => by simp [ahead] at h
 | f + 1, i, j, h => by
   unfold ahead at h
   split at h
   · cases h
   · rename_i o ho
     obtain ⟨e, he, h⟩ := List.any_eq_true.1 h
     simp only [Bool.and_eq_true, Bool.or_eq_true, beq_iff_eq] at h
     have := hb i o ho e he
     rcases h.2 with h2 | h2
     · omega
     · have := ahead_lt hb f e.on j h2; omega
theorem writer_spec {ops : Array Oper} {t j : Nat} (h : writer ops t = some j) : ∃ o, ops[j]? = some o ∧ o.dst = some t := by
 unfold writer at h
 have h1 := List.find?_some h
 split at h1
 · cases h1
 · rename_i o ho
   exact ⟨o, ho, by simpa using h1⟩
theorem region_lin {P : Program} {Q : Exit → Act → World → Prop} {id : Nat} {ops : Array Oper} {a0 : Act} {w0 : World} (hm : P.follows .mixedOrders = true) (E : TypeId) (B n : Nat) (q l0 l1 : List Bool) (fin : List Nat) (L0 L1 : Nat → Fk E B) (J : World → Prop)
   (hJm : ∀ w w', URow E B w w' → J w → J w') (hJ : J w0) (hn : a0.tmps.size = n) (hB : linB ops n q l0 l1 fin = true)
   (hl0 : ∀ t, t < n → (L0 t).lin = l0.getD t false) (hl1 : ∀ t, t < n → (L1 t).lin = l1.getD t false)
   (h0 : ∀ t, t < n → (L0 t).on w0 (a0.tmps.getD t undef))
   (ob : ∀ (i : Nat) (o : Oper), ops[i]? = some o → ∀ a w, J w → (∀ t ∈ o.looksAt ops, t < n → (if late ops i t then L1 t else L0 t).on w (a.tmps.getD t undef)) → a.tmps.size = n →
     OpSays P ops o a w fun v w' => (if q.getD i false then w.grownBy w' none else URow E B w w') ∧ ∀ d, o.dst = some d → (L1 d).on w' v)
   (hQ : ∀ a w, J w → a.defers = a0.defers → a.tmps.size = n → (∀ t, (∀ (i : Nat) (o : Oper), ops[i]? = some o → o.dst ≠ some t) → a.tmps.getD t undef = a0.tmps.getD t undef) → (∀ t ∈ fin, (match writer ops t with | some _ => L1 t | none => L0 t).on w (a.tmps.getD t undef)) → Q .normal a w) :
   (Code.region id ops true).wp P Q a0 w0 := by
 unfold linB at hB
 rw [Bool.and_eq_true] at hB
 obtain ⟨hB1, hB2⟩ := hB
 have spec : ∀ (i : Nat) (o : Oper), ops[i]? = some o → (∀ e ∈ o.after.toList, e.on < i) ∧ (∀ d, o.dst = some d → d < n ∧ writer ops d = some i) ∧
     (∀ t, t < n → t ∈ o.looksAt ops → ∀ j, writer ops t = some j → j = i ∨ ahead ops ops.size i j = true ∨ ahead ops ops.size j i = true) ∧
     (q.getD i false = false → ∀ t, t < n → (l0.getD t false = true → ∀ (k : Nat) (ok : Oper), ops[k]? = some ok → t ∈ ok.looksAt ops → late ops k t = false → k = i ∨ ahead ops ops.size i k = true) ∧
       (l1.getD t false = true → ∀ j, writer ops t = some j → j = i ∨ ahead ops ops.size j i = true ∨ ∀ (k : Nat) (ok : Oper), ops[k]? = some ok → t ∈ ok.looksAt ops → late ops k t = true → k = i ∨ ahead ops ops.size i k = true)) := by
   intro i o ho
   have hlt := (Array.getElem?_eq_some_iff.1 ho).1
   have h := List.all_eq_true.1 hB1 i (List.mem_range.2 hlt)
   simp only [ho, Bool.and_eq_true] at h
   obtain ⟨⟨⟨h1, h2⟩, h3⟩, h4⟩ := h
   have lk : ∀ (k : Nat) (ok : Oper) (t : Nat), ops[k]? = some ok → t ∈ ok.looksAt ops → looks ops k t = true := fun k ok t hk ht => by
     unfold looks; rw [hk]; simpa using ht
   refine ⟨fun e he => by simpa using List.all_eq_true.1 h1 e he, fun d hd => ?_, fun t ht hl j hj => ?_, fun hq t ht => ⟨fun hl k ok hk hkt hla => ?_, fun hl j hj => ?_⟩⟩
   · rw [hd] at h2
     simpa using h2
   · have := List.all_eq_true.1 h3 t (List.mem_range.2 ht)
     rw [lk i o t ho hl] at this
     simp only [Bool.not_true, Bool.false_or, hj, Bool.or_eq_true, beq_iff_eq] at this
     rcases this with (h | h) | h
     · exact .inl h
     · exact .inr (.inl h)
     · exact .inr (.inr h)
   · rw [hq, Bool.false_or] at h4
     have := List.all_eq_true.1 h4 t (List.mem_range.2 ht)
     rw [Bool.and_eq_true] at this
     have h5 := this.1
     rw [hl] at h5
     simp only [Bool.not_true, Bool.false_or] at h5
     have h6 := List.all_eq_true.1 h5 k (List.mem_range.2 (Array.getElem?_eq_some_iff.1 hk).1)
     rw [lk k ok t hk hkt, hla] at h6
     simpa using h6
   · rw [hq, Bool.false_or] at h4
     have := List.all_eq_true.1 h4 t (List.mem_range.2 ht)
     rw [Bool.and_eq_true] at this
     have h5 := this.2
     rw [hl] at h5
     simp only [Bool.not_true, Bool.false_or, hj, Bool.or_eq_true, beq_iff_eq] at h5
     rcases h5 with (h5 | h5) | h5
     · exact .inl h5
     · exact .inr (.inl h5)
     · refine .inr (.inr fun k ok hk hkt hla => ?_)
       have h6 := List.all_eq_true.1 h5 k (List.mem_range.2 (Array.getElem?_eq_some_iff.1 hk).1)
       rw [lk k ok t hk hkt, hla] at h6
       simpa using h6
 have hback : ∀ (i : Nat) (o : Oper), ops[i]? = some o → ∀ e ∈ o.after.toList, e.on < i := fun i o ho => (spec i o ho).1
 -- what holds when the operations of S have run
 let Good : (Nat → Bool) → World → (Nat → Value) → Prop := fun S w x =>
   (∀ (i : Nat) (o : Oper), S i = true → ops[i]? = some o → ∀ e ∈ o.after.toList, Region.binds .any e = true → S e.on = true) ∧
   ∀ t, t < n → match writer ops t with
     | some j => if S j then ((L1 t).lin = true ∧ ∃ i, i < ops.size ∧ S i = true ∧ q.getD i false = false ∧ i ≠ j ∧ ahead ops ops.size j i = false) ∨ (L1 t).on w (x t) else ((L0 t).lin = true ∧ ∃ i, i < ops.size ∧ S i = true ∧ q.getD i false = false) ∨ (L0 t).on w (x t)
     | none => ((L0 t).lin = true ∧ ∃ i, i < ops.size ∧ S i = true ∧ q.getD i false = false) ∨ (L0 t).on w (x t)
 have initOk : ∀ S w x, Good S w x → ∀ (i : Nat) (o : Oper), ops[i]? = some o → S i = false → ∀ t, t < n → t ∈ o.looksAt ops → late ops i t = false → (((L0 t).lin = true ∧ ∃ i, i < ops.size ∧ S i = true ∧ q.getD i false = false) ∨ (L0 t).on w (x t)) → (L0 t).on w (x t) := by
   intro S w x hG i o ho hSi t ht hl hla h
   rcases h with ⟨hlin, i', hi', hS', hq'⟩ | h
   · exfalso
     obtain ⟨o', ho'⟩ : ∃ o', ops[i']? = some o' := ⟨_, Array.getElem?_eq_getElem hi'⟩
     rcases ((spec i' o' ho').2.2.2 hq' t ht).1 (by rw [← hl0 t ht]; exact hlin) i o ho hl hla with rfl | ha
     · rw [hS'] at hSi; cases hSi
     · have := ahead_closed hG.1 _ _ _ ha hS'
       rw [this] at hSi; cases hSi
   · exact h
 have readOk : ∀ S w x, Good S w x → ∀ (i : Nat) (o : Oper), ops[i]? = some o → S i = false → (∀ e ∈ o.after.toList, Region.binds .any e = true → S e.on = true) → ∀ t ∈ o.looksAt ops, t < n → (if late ops i t then L1 t else L0 t).on w (x t) := by
   intro S w x hG i o ho hSi hready t hl ht
   have hg := hG.2 t ht
   -- what is ahead of i has run
   have hS2 : ∀ j, ahead ops ops.size i j = true → S j = true := by
     intro j hj
     have hS' : ∀ (i' : Nat) (o' : Oper), (fun k => S k || k == i) i' = true → ops[i']? = some o' → ∀ e ∈ o'.after.toList, Region.binds .any e = true → (fun k => S k || k == i) e.on = true := by
       intro i' o' h1 h2 e he hb
       simp only [Bool.or_eq_true, beq_iff_eq] at h1 ⊢
       rcases h1 with h1 | rfl
       · exact .inl (hG.1 i' o' h1 h2 e he hb)
       · rw [ho] at h2; obtain rfl := Option.some.inj h2
         exact .inl (hready e he hb)
     have := ahead_closed hS' _ _ _ hj (by simp)
     simp only [Bool.or_eq_true, beq_iff_eq] at this
     rcases this with h | rfl
     · exact h
     · have := ahead_lt hback _ _ _ hj; omega
   cases hw : writer ops t with
   | none =>
     have hla : late ops i t = false := by unfold late; rw [hw]
     rw [hla]
     rw [hw] at hg
     exact initOk S w x hG i o ho hSi t ht hl hla hg
   | some j =>
     rw [hw] at hg
     by_cases hij : ahead ops ops.size i j = true
     · have hla : late ops i t = true := by unfold late; rw [hw]; exact hij
       rw [hla]
       have hSj := hS2 j hij
       simp only [hSj, if_true] at hg
       rcases hg with ⟨hlin, i', hi', hS', hq', hne, hnb⟩ | h
       · exfalso
         obtain ⟨o', ho'⟩ : ∃ o', ops[i']? = some o' := ⟨_, Array.getElem?_eq_getElem hi'⟩
         rcases ((spec i' o' ho').2.2.2 hq' t ht).2 (by rw [← hl1 t ht]; exact hlin) j hw with h | h | h
         · exact hne h.symm
         · rw [hnb] at h; cases h
         · rcases h i o ho hl hla with rfl | ha
           · rw [hS'] at hSi; cases hSi
           · have := ahead_closed hG.1 _ _ _ ha hS'
             rw [this] at hSi; cases hSi
       · exact h
     · have hla : late ops i t = false := by unfold late; rw [hw]; simpa using hij
       rw [hla]
       have hSj : S j = false := by
         cases hSj : S j with
         | false => rfl
         | true =>
           exfalso
           rcases (spec i o ho).2.2.1 t ht hl j hw with rfl | h | h
           · rw [hSj] at hSi; cases hSi
           · exact hij h
           · have := ahead_closed hG.1 _ _ _ h hSj
             rw [this] at hSi; cases hSi
       simp only [hSj, Bool.false_eq_true, if_false] at hg
       exact initOk S w x hG i o ho hSi t ht hl hla hg
 refine wp_region_any hm ?_
 have key : ∀ (fuel : Nat) (listed : Array Bool) (a : Act) (w : World), listed.size = ops.size → (∀ l : List Nat, l.Nodup → (∀ i ∈ l, i < ops.size ∧ listed.getD i true = false) → l.length ≤ fuel) →
     J w → a.defers = a0.defers → a.tmps.size = n → (∀ t, (∀ (i : Nat) (o : Oper), ops[i]? = some o → o.dst ≠ some t) → a.tmps.getD t undef = a0.tmps.getD t undef) → Good (fun i => listed.getD i false) w (fun t => a.tmps.getD t undef) → wpAny P .any ops Q fuel listed a w := by
   intro fuel
   have done : ∀ (listed : Array Bool) (a : Act) (w : World), listed.size = ops.size → Region.ready .any ops listed = [] → J w → a.defers = a0.defers → a.tmps.size = n → (∀ t, (∀ (i : Nat) (o : Oper), ops[i]? = some o → o.dst ≠ some t) → a.tmps.getD t undef = a0.tmps.getD t undef) →
     Good (fun i => listed.getD i false) w (fun t => a.tmps.getD t undef) → Q .normal a w := by
     intro listed a w hsz hr hg hd has hfr hG
     have all : ∀ i, i < ops.size → listed.getD i false = true := by
       intro i
       induction i using Nat.strongRecOn with
       | _ i ih =>
         intro hi
         cases hl : listed.getD i false with
         | true => rfl
         | false =>
           exfalso
           have ho : ops[i]? = some ops[i] := Array.getElem?_eq_getElem hi
           have : i ∈ Region.ready .any ops listed := mem_ready.2 ⟨by
               have : i < listed.size := by omega
               simp only [Array.getD_eq_getD_getElem?, Array.getElem?_eq_getElem this, Option.getD_some] at hl ⊢
               exact hl, ops[i], ho, fun e he _ => by
               have := hback i _ ho e (by simpa using he)
               exact ih e.on this (by omega)⟩
           rw [hr] at this
           cases this
     refine hQ a w hg hd has hfr fun t htf => ?_
     have h := List.all_eq_true.1 hB2 t htf
     simp only [Bool.and_eq_true, decide_eq_true_eq] at h
     obtain ⟨ht, h⟩ := h
     have hgt := hG.2 t ht
     cases hw : writer ops t with
     | none =>
       rw [hw] at hgt h
       rcases hgt with ⟨hlin, i', hi', hS', hq'⟩ | hgt
       · exfalso
         rw [hl0 t ht] at hlin
         rw [hlin] at h
         simp only [Bool.not_true, Bool.false_or] at h
         have := List.all_eq_true.1 h i' (List.mem_range.2 hi')
         rw [hq'] at this; cases this
       · exact hgt
     | some j =>
       rw [hw] at hgt h
       obtain ⟨oj, hoj, _⟩ := writer_spec hw
       simp only [all j (Array.getElem?_eq_some_iff.1 hoj).1, if_true] at hgt
       rcases hgt with ⟨hlin, i', hi', hS', hq', hne, hnb⟩ | hgt
       · exfalso
         rw [hl1 t ht] at hlin
         rw [hlin] at h
         simp only [Bool.not_true, Bool.false_or] at h
         have := List.all_eq_true.1 h i' (List.mem_range.2 hi')
         rw [hq', hnb] at this
         simp at this
         exact hne this
       · exact hgt
   induction fuel with
   | zero =>
     intro listed a w hsz hf hg hd has hfr hG
     have hr : Region.ready .any ops listed = [] := by
       cases hr : Region.ready .any ops listed with
       | nil => rfl
       | cons i r =>
         exfalso
         have hi : i ∈ Region.ready .any ops listed := by rw [hr]; exact List.mem_cons_self
         obtain ⟨h1, o, h2, _⟩ := mem_ready.1 hi
         have := hf [i] (by simp) (fun k hk => by simp at hk; subst hk; exact ⟨(Array.getElem?_eq_some_iff.1 h2).1, h1⟩)
         simp at this
     exact ⟨hr, done listed a w hsz hr hg hd has hfr hG⟩
   | succ fuel ih =>
     intro listed a w hsz hf hg hd has hfr hG
     refine ⟨fun hr => done listed a w hsz hr hg hd has hfr hG, fun i hi => ?_⟩
     obtain ⟨h1, o, ho, hready⟩ := mem_ready.1 hi
     have hlt : i < ops.size := (Array.getElem?_eq_some_iff.1 ho).1
     have hSi : listed.getD i false = false := by
       have : i < listed.size := by omega
       simp only [Array.getD_eq_getD_getElem?, Array.getElem?_eq_getElem this, Option.getD_some] at h1 ⊢
       exact h1
     refine OpSays.wpOp ho (ob i o ho a w hg (fun t htl ht => readOk _ _ _ hG i o ho hSi (fun e he hb => hready e (by simpa using he) hb) t htl ht) has) ?_
     rintro v w' ⟨hstep, hv⟩
     have hU : URow E B w w' := by
       split at hstep
       · exact URow.quiet hstep
       · exact hstep
     refine ih _ _ _ (by simpa using hsz) ?_ (hJm w w' hU hg) (by cases ho' : o.dst <;> simp [Act.put, hd]) (by cases ho' : o.dst <;> simp [Act.put, has]) (fun t ht => by rw [getD_put a o.dst v t (fun k hk => has ▸ ((spec i o ho).2.1 k hk).1), if_neg (ht i o ho)]; exact hfr t ht) ?_
     · intro l hnd hl
       have hil : i ∉ l := by
         intro hmem
         have := (hl i hmem).2
         rw [Array.getD_eq_getD_getElem?, Array.getElem?_setIfInBounds_self_of_lt (by omega)] at this
         cases this
       have := hf (i :: l) (List.nodup_cons.2 ⟨hil, hnd⟩) (fun k hk => by
         rcases List.mem_cons.1 hk with rfl | hk
         · exact ⟨hlt, h1⟩
         · have h2 := hl k hk
           have hne : i ≠ k := fun e => hil (e ▸ hk)
           rw [getD_set_ne true hne] at h2
           exact h2)
       simpa using this
     · have hset : ∀ k, (listed.setIfInBounds i true).getD k false = (listed.getD k false || k == i) := by
         intro k
         by_cases e : i = k
         · subst e
           rw [Array.getD_eq_getD_getElem?, Array.getElem?_setIfInBounds_self_of_lt (by omega)]
           simp
         · rw [getD_set_ne false e]
           have : (k == i) = false := by simp; omega
           rw [this, Bool.or_false]
       refine ⟨fun i' o' hS' ho' e he hb => ?_, fun t ht => ?_⟩
       · simp only [hset, Bool.or_eq_true, beq_iff_eq] at hS' ⊢
         rcases hS' with hS' | rfl
         · exact .inl (hG.1 i' o' hS' ho' e he hb)
         · rw [ho] at ho'; obtain rfl := Option.some.inj ho'
           exact .inl (hready e (by simpa using he) hb)
       · have hgt := hG.2 t ht
         have hput := getD_put a o.dst v t (fun k hk => has ▸ ((spec i o ho).2.1 k hk).1)
         by_cases hdt : o.dst = some t
         · have hw := ((spec i o ho).2.1 t hdt).2
           rw [hw]
           simp only [hset, beq_self_eq_true, Bool.or_true, if_true]
           right
           rw [hput, if_pos hdt]
           exact hv t hdt
         · rw [if_neg hdt] at hput
           have keep0 : (((L0 t).lin = true ∧ ∃ i, i < ops.size ∧ listed.getD i false = true ∧ q.getD i false = false) ∨ (L0 t).on w (a.tmps.getD t undef)) →
               (((L0 t).lin = true ∧ ∃ k, k < ops.size ∧ (listed.setIfInBounds i true).getD k false = true ∧ q.getD k false = false) ∨ (L0 t).on w' ((a.put o.dst v).tmps.getD t undef)) := by
             rintro (⟨hlin, i', hi', hS', hq'⟩ | h)
             · exact .inl ⟨hlin, i', hi', by rw [hset, hS']; rfl, hq'⟩
             · rw [hput]
               by_cases hqi : q.getD i false = true
               · rw [hqi, if_pos rfl] at hstep
                 exact .inr ((L0 t).m0 _ _ _ hstep h)
               · have hqi : q.getD i false = false := by simpa using hqi
                 cases hlin : (L0 t).lin with
                 | true => exact .inl ⟨rfl, i, hlt, by rw [hset]; simp, hqi⟩
                 | false => exact .inr ((L0 t).m1 hlin _ _ _ hU h)
           cases hw : writer ops t with
           | none =>
             rw [hw] at hgt
             exact keep0 hgt
           | some j =>
             rw [hw] at hgt
             have hji : j ≠ i := fun e => by
               subst e
               obtain ⟨oj, hoj, hdj⟩ := writer_spec hw
               rw [ho] at hoj; obtain rfl := Option.some.inj hoj
               exact hdt hdj
             have hjs : (listed.setIfInBounds i true).getD j false = listed.getD j false := by
               rw [hset]
               have : (j == i) = false := by simpa using hji
               rw [this, Bool.or_false]
             simp only [hjs]
             by_cases hSj : listed.getD j false = true
             · simp only [hSj, if_true] at hgt ⊢
               rcases hgt with ⟨hlin, i', hi', hS', hq', hne, hnb⟩ | h
               · exact .inl ⟨hlin, i', hi', by rw [hset, hS']; rfl, hq', hne, hnb⟩
               · rw [hput]
                 by_cases hqi : q.getD i false = true
                 · rw [hqi, if_pos rfl] at hstep
                   exact .inr ((L1 t).m0 _ _ _ hstep h)
                 · have hqi : q.getD i false = false := by simpa using hqi
                   cases hlin : (L1 t).lin with
                   | false => exact .inr ((L1 t).m1 hlin _ _ _ hU h)
                   | true =>
                     refine .inl ⟨rfl, i, hlt, by rw [hset]; simp, hqi, fun e => hji e.symm, ?_⟩
                     cases hb : ahead ops ops.size j i with
                     | false => rfl
                     | true =>
                       exfalso
                       have := ahead_closed hG.1 _ _ _ hb hSj
                       rw [this] at hSi; cases hSi
             · have hSj : listed.getD j false = false := by simpa using hSj
               simp only [hSj, Bool.false_eq_true, if_false] at hgt ⊢
               exact keep0 hgt
 have hd0 : w0.grownBy { w0 with drawn := w0.drawn + 1 } none := ⟨rfl, rfl, rfl, Nat.le_refl _, fun _ _ _ => rfl⟩
 refine key ops.size _ a0 { w0 with drawn := w0.drawn + 1 } (by simp) ?_ (hJm _ _ (URow.quiet hd0) hJ) rfl hn (fun _ _ => rfl) ⟨fun i o hS => ?_, fun t ht => ?_⟩
 · intro l hnd hl
   have : l ⊆ List.range ops.size := fun k hk => List.mem_range.2 (hl k hk).1
   have := List.Nodup.length_le_of_subset hnd this
   simpa using this
 · exfalso
   have hS : (Array.replicate ops.size false).getD i false = true := hS
   by_cases hi : i < ops.size
   · rw [Array.getD_eq_getD_getElem?, Array.getElem?_replicate, if_pos hi] at hS; cases hS
   · rw [Array.getD_eq_getD_getElem?, Array.getElem?_replicate, if_neg hi] at hS; cases hS
 · have hf : ∀ j, (Array.replicate ops.size false).getD j false = false := fun j => by
     by_cases hi : j < ops.size
     · rw [Array.getD_eq_getD_getElem?, Array.getElem?_replicate, if_pos hi]; rfl
     · rw [Array.getD_eq_getD_getElem?, Array.getElem?_replicate, if_neg hi]; rfl
   have := (L0 t).m0 _ _ _ hd0 (h0 t ht)
   cases hw : writer ops t with
   | none => exact .inr this
   | some j =>
     simp only [hf, Bool.false_eq_true, if_false]
     exact .inr this
end
/-! ## Valid -/
section
open Go.RowKit
theorem ret_cell {P : Program} {fn : Func} {p : Tmp} {T : TypeId} (h : fn.results = #[.cell p T]) {a : Act} {w : World} {b : Nat} {cs : List Value} {v : Value} {u : TypeId} {fr : Nat × Nat} {R : Ending → World → Prop}
   (hp : a.tmps.getD p undef = ptr b) (t : TY P T cs v) (hb : w.heap[b]? = some (.cells cs.toArray u fr)) (hd : a.defers = []) (hR : R (.returned v) w) : bodyPost P fn R .ret a w := by
 have e := t.load w b 0 (rangeAt_row hb)
 have hp' : a.tmps[p]?.getD undef = .pointer (some ⟨b, 0, none⟩) := by simpa [ptr] using hp
 exact bodyPost_ret (v := v) (by simp [results, h, hp', asAddr, e]) hd hR
theorem setCells_all {w : World} {b : Nat} {t : TypeId} {c0 : Array Value} (cs : List Value) (hb : w.heap[b]? = some (.cells c0 t (0, 0))) (hc : c0.size = cs.length) :
   w.grownBy (w.setCells b 0 cs) (some b) ∧ (w.setCells b 0 cs).heap[b]? = some (.cells cs.toArray t (0, 0)) :=
 ⟨setCells_grown b cs 0 w, setCells_row b t cs 0 w [] c0.toList rfl (by simpa using hc.symm) (by simpa using hb)⟩
def vval (v : V) : Value := .agg #[.int .i64 v.kind, .int .i64 v.int, .string v.text]
theorem tyV (v : V) : TY Try.prog 67 [.int .i64 v.kind, .int .i64 v.int, .string v.text] (vval v) := TY.agg Try.underlying67 rfl (by kernel_rfl) (by simp [Value.oneCell'])
end
/-! ## App -/
section
open Go.RowKit
def AppPost (w : World) (v : Value) (ys : List Nat) (e : Ending) (w' : World) : Prop := ∃ v', e = .returned v' ∧ Own w' 5 1 v' ys.length (bv ys) ∧ Step w v w' v'
theorem AppPost.elim {w w' : World} {v : Value} {ys : List Nat} {e : Ending} (h : AppPost w v ys e w') : ∃ v', e = .returned v' ∧ Own w' 5 1 v' ys.length (bv ys) ∧ Step w v w' v' := h
theorem Own.row {T E : TypeId} {w w' : World} {v v' : Value} {n k sz : Nat} {xs : List Value} {c : Array Value} {fr : Nat × Nat} (h : Own w E sz v n xs) (hs : Step w v w' v') (hne : E ≠ T) (hk : w.heap[k]? = some (.cells c T fr)) : w'.heap[k]? = some (.cells c T fr) :=
 row_of hs.1 hk (Own.ne h hk hne).symm
end
/-! ## App2 -/
section
open Go.RowKit
def vcells (v : V) : List Value := [.int .i64 v.kind, .int .i64 v.int, .string v.text]
def RowSh (s : Value) (l : List V) : Prop := ∃ ao cap, s = .slice ao l.length cap ∧ l.length ≤ cap ∧ cap ≤ 9223372036854775807
theorem RowSh.shape {s : Value} {l : List V} (h : RowSh s l) : ∃ ao cap, s = .slice ao l.length cap ∧ l.length ≤ cap ∧ cap ≤ 9223372036854775807 := h
def DRow (B : Nat) (w : World) (s : Value) (l : List V) : Prop := RowSh s l ∧ (l ≠ [] → Sl w 3 s l.length (l.flatMap vcells) ∧ Lo s B)
def Hi (v : Value) (B : Nat) : Prop := ∀ k, v.ownBlock = some k → B ≤ k
theorem Hi.step {w w' : World} {v v' : Value} {B : Nat} (h : Hi v B) (hs : Step w v w' v') (hB : B ≤ w.heap.size) : Hi v' B := fun k hk => by
 rcases hs.2 k hk with h1 | h1
 · exact h k h1
 · omega
theorem Hi.below {w w' : World} {v v' : Value} {B : Nat} (h : Hi v B) (hs : Step w v w' v') (hB : B ≤ w.heap.size) : Below B w w' := grown_below hs.1 hB h
theorem DRow.below {B : Nat} {w w' : World} {s : Value} {l : List V} (h : DRow B w s l) (hb : Below B w w') : DRow B w' s l := ⟨h.1, fun hn => ⟨(h.2 hn).1.below hb (h.2 hn).2, (h.2 hn).2⟩⟩
theorem DRow.mono {B B' : Nat} {w : World} {s : Value} {l : List V} (h : DRow B w s l) (hb : B ≤ B') : DRow B' w s l := ⟨h.1, fun hn => ⟨(h.2 hn).1, (h.2 hn).2.mono hb⟩⟩
theorem DRow.grown {B : Nat} {w w' : World} {s : Value} {l : List V} (h : DRow B w s l) (hg : w.grownBy w' none) : DRow B w' s l := ⟨h.1, fun hn => ⟨(h.2 hn).1.kept hg (by cases s.ownBlock <;> simp), (h.2 hn).2⟩⟩
theorem DRow.at {B : Nat} {w : World} {s : Value} {l : List V} (h : DRow B w s l) {k : Nat} (hk : k < l.length) : Sl w 3 s l.length (l.flatMap vcells) ∧ Lo s B := h.2 (fun e => by subst e; simp at hk)
theorem flat_get {α β : Type} (f : α → List β) (n : Nat) : ∀ (l : List α), (∀ x ∈ l, (f x).length = n) → ∀ (k : Nat) (hk : k < l.length) (j : Nat), j < n → (l.flatMap f)[k * n + j]? = (f l[k])[j]?
 | [], _, k, hk, _, _ => by simp at hk
 | x :: l, hf, 0, hk, j, hj => by
   rw [List.flatMap_cons, List.getElem?_append_left (by rw [hf x List.mem_cons_self]; omega)]
   simp
 | x :: l, hf, k + 1, hk, j, hj => by
   have hx := hf x List.mem_cons_self
   rw [List.flatMap_cons, List.getElem?_append_right (by rw [hx, Nat.add_mul]; omega), hx]
   have e : (k + 1) * n + j - n = k * n + j := by rw [Nat.add_mul]; omega
   rw [e, flat_get f n l (fun y hy => hf y (List.mem_cons_of_mem _ hy)) k (by simpa using hk) j hj]
   simp
theorem Sl.elem {α : Type} {w : World} {n : Nat} {ao : Option Addr} {m cap : Nat} {l : List α} {f : α → List Value} (h : Sl w n (.slice ao m cap) l.length (l.flatMap f)) (hf : ∀ x ∈ l, (f x).length = n) (hn : 0 < n) (k : Nat) (hk : k < l.length) :
   ∃ b off, ao = some ⟨b, off, none⟩ ∧ ∀ j v, (f l[k])[j]? = some v → w.cell? ⟨b, off + (k * n + j), none⟩ = some v := by
 have hlen : (l.flatMap f).length = l.length * n := h.1
 have hpos : k * n < (l.flatMap f).length := by rw [hlen]; exact Nat.mul_lt_mul_of_pos_right hk hn
 obtain ⟨b, off, he, hc⟩ := h.at (k * n) hpos
 refine ⟨b, off, he, fun j v hj => ?_⟩
 have hjn : j < n := by
   have := (List.getElem?_eq_some_iff.1 hj).1
   rw [hf _ (List.getElem_mem hk)] at this
   exact this
 have hlt : k * n + j < (l.flatMap f).length := by
   rw [hlen]
   calc k * n + j < k * n + n := by omega
     _ = (k + 1) * n := by rw [Nat.add_mul]; omega
     _ ≤ l.length * n := Nat.mul_le_mul_right _ (by omega)
 rw [hc _ hlt]
 have := flat_get f n l hf k hk j hjn
 rw [List.getElem?_eq_getElem hlt, hj] at this
 exact this
end
/-! ## Lin2 -/
section
open Go.RowKit
section facts
variable {E : TypeId} {B : Nat}
def Fk.is (v : Value) : Fk E B := ⟨fun _ x => x = v, false, fun _ _ _ _ h => h, fun _ _ _ _ _ h => h⟩
def Fk.any : Fk E B := ⟨fun _ _ => True, false, fun _ _ _ _ h => h, fun _ _ _ _ _ h => h⟩
def Fk.own (w0 : World) (v0 : Value) (l : List Nat) : Fk E B :=
 ⟨fun w x => Own w 5 1 x l.length (bv l) ∧ Step w0 v0 w x ∧ Hi x B, true, fun _ _ v hg h => ⟨h.1.kept hg (by cases v.ownBlock <;> simp), ⟨grown_trans h.2.1.1 (grown_none hg), h.2.1.2⟩, h.2.2⟩, fun h => by cases h⟩
end facts
def ObL (P : Program) (ops : Array Oper) (n : Nat) {E : TypeId} {B : Nat} (L0 L1 : Nat → Fk E B) (J : World → Prop) (q : Bool) (i : Nat) (o : Oper) : Prop :=
 ∀ a w, J w → (∀ t ∈ o.looksAt ops, t < n → (if late ops i t then L1 t else L0 t).on w (a.tmps.getD t undef)) → a.tmps.size = n →
   OpSays P ops o a w fun v w' => (if q then w.grownBy w' none else URow E B w w') ∧ ∀ d, o.dst = some d → (L1 d).on w' v
def ObLAll (P : Program) (ops : Array Oper) (n : Nat) {E : TypeId} {B : Nat} (L0 L1 : Nat → Fk E B) (J : World → Prop) : Nat → List Bool → List Oper → Prop
 | _, _, [] => True
 | _, [], _ => False
 | i, q :: qs, o :: l => ObL P ops n L0 L1 J q i o ∧ ObLAll P ops n L0 L1 J (i + 1) qs l
theorem ObLAll.at {P : Program} {ops : Array Oper} {n : Nat} {E : TypeId} {B : Nat} {L0 L1 : Nat → Fk E B} {J : World → Prop} : ∀ {l : List Oper} {qs : List Bool} {k : Nat}, ObLAll P ops n L0 L1 J k qs l → ∀ (i : Nat) (o : Oper), l[i]? = some o → ObL P ops n L0 L1 J (qs.getD i false) (k + i) o
 | [], _, _, _, i, o, hi => by simp at hi
 | _ :: _, [], _, h, _, _, _ => h.elim
 | x :: l, q :: qs, k, h, 0, o, hi => by simp at hi; subst hi; exact h.1
 | x :: l, q :: qs, k, h, i + 1, o, hi => by
   have := ObLAll.at h.2 i o (by simpa using hi)
   rw [show k + 1 + i = k + (i + 1) by omega] at this
   simpa using this
def frameOf (x : Nat → Value) : Nat → List Value → List Bool → List Value
 | k, v :: l, b :: bs => (if b then x k else v) :: frameOf x (k + 1) l bs
 | _, l, [] => l
 | _, [], _ :: _ => []
theorem frameOf_len (x : Nat → Value) : ∀ (k : Nat) (l : List Value) (m : List Bool), m.length = l.length → (frameOf x k l m).length = l.length
 | _, [], [], _ => rfl
 | _, [], _ :: _, h => by simp at h
 | _, _ :: _, [], h => by simp at h
 | k, v :: l, b :: bs, h => by simp only [frameOf, List.length_cons]; rw [frameOf_len x (k + 1) l bs (by simpa using h)]
theorem frameOf_get (x : Nat → Value) : ∀ (k : Nat) (l : List Value) (m : List Bool), m.length = l.length → ∀ t, t < l.length → (frameOf x k l m).getD t undef = if m.getD t false then x (k + t) else l.getD t undef
 | _, [], _, _, t, h => by simp at h
 | _, _ :: _, [], h, _, _ => by simp at h
 | k, v :: l, b :: bs, h, 0, _ => by simp [frameOf]
 | k, v :: l, b :: bs, h, t + 1, ht => by
   have := frameOf_get x (k + 1) l bs (by simpa using h) t (by simpa using ht)
   simp only [frameOf, List.getD_cons_succ, this]
   rw [show k + 1 + t = k + (t + 1) by omega]
theorem region_linl {P : Program} {Q : Exit → Act → World → Prop} {id : Nat} {ops : List Oper} {l0v : List Value} {ds : List Deferred} {w0 : World} (hm : P.follows .mixedOrders = true) (E : TypeId) (B n : Nat) (q l0 l1 : List Bool) (fin : List Nat) (L0 L1 : List (Fk E B)) (J : World → Prop)
   (hJm : ∀ w w', URow E B w w' → J w → J w') (hJ : J w0) (hn : l0v.length = n) (hB : linB ops.toArray n q l0 l1 fin = true)
   (m : List Bool) (hm2 : dstsB ops n = m) (hl0 : L0.map (·.lin) = l0) (hl1 : L1.map (·.lin) = l1) (hL0 : L0.length = n) (hL1 : L1.length = n)
   (h0 : ∀ t, t < n → (L0.getD t Fk.any).on w0 (l0v.getD t undef))
   (ob : ObLAll P ops.toArray n (fun t => L0.getD t Fk.any) (fun t => L1.getD t Fk.any) J 0 q ops)
   (hQ : ∀ (x : Nat → Value) w, J w → (∀ t ∈ fin, (match writer ops.toArray t with | some _ => L1.getD t Fk.any | none => L0.getD t Fk.any).on w (if m.getD t false then x t else l0v.getD t undef)) → Q .normal ⟨(frameOf x 0 l0v m).toArray, ds⟩ w) :
   (Code.region id ops.toArray true).wp P Q ⟨l0v.toArray, ds⟩ w0 := by
 have gl : ∀ (L : List (Fk E B)) (l : List Bool), L.map (·.lin) = l → L.length = n → ∀ t, t < n → (L.getD t Fk.any).lin = l.getD t false := by
   intro L l h hL t ht
   subst h
   rw [List.getD_eq_getElem?_getD, List.getD_eq_getElem?_getD, List.getElem?_map, List.getElem?_eq_getElem (by omega)]
   rfl
 refine region_lin hm E B n q l0 l1 fin (fun t => L0.getD t Fk.any) (fun t => L1.getD t Fk.any) J hJm hJ (by simpa using hn) hB (gl L0 l0 hl0 hL0) (gl L1 l1 hl1 hL1) (fun t ht => ?_) (fun i o hi => ?_) (fun a w hJw hd has hfr hf => ?_)
 · have := h0 t ht
   simpa [List.getD_eq_getElem?_getD] using this
 · have := ob.at i o (by simpa using hi)
   rw [Nat.zero_add] at this
   exact this
 · have hml : m.length = l0v.length := by rw [← hm2, hn]; simp [dstsB]
   have hget : ∀ t, t < n → a.tmps.getD t undef = if m.getD t false then a.tmps.getD t undef else l0v.getD t undef := by
     intro t ht
     split
     · rfl
     · rename_i hmt
       have := hfr t (fun i o hi hd' => by
         refine hmt ?_
         rw [← hm2]
         simp only [dstsB, List.getD_eq_getElem?_getD, List.getElem?_map, List.getElem?_range ht, Option.map_some, Option.getD_some, List.any_eq_true, beq_iff_eq]
         exact ⟨o, List.mem_of_getElem? (by simpa using hi), hd'⟩)
       rw [this]
       simp [List.getD_eq_getElem?_getD]
   have e : a = ⟨(frameOf (fun t => a.tmps.getD t undef) 0 l0v m).toArray, ds⟩ := by
     obtain ⟨tm, df⟩ := a
     simp only at hd has hget ⊢
     subst hd
     congr 1
     apply Array.ext'
     refine List.ext_getElem (by rw [frameOf_len _ _ _ _ hml, hn]; simpa using has) fun t h1 h2 => ?_
     have ht : t < n := by have : t < tm.size := by simpa using h1
                           omega
     have h3 := frameOf_get (fun t => tm.getD t undef) 0 l0v m hml t (by omega)
     rw [Nat.zero_add] at h3
     have h4 := (hget t ht).trans h3.symm
     have h1' : t < tm.size := by simpa using h1
     rw [Array.getD_eq_getD_getElem?, Array.getElem?_eq_getElem h1', List.getD_eq_getElem?_getD, List.getElem?_eq_getElem (by simpa using h2)] at h4
     simpa using h4
   rw [e]
   refine hQ _ w hJw fun t htf => ?_
   have htn : t < n := by
     unfold linB at hB
     rw [Bool.and_eq_true] at hB
     have := List.all_eq_true.1 hB.2 t htf
     simp only [Bool.and_eq_true, decide_eq_true_eq] at this
     exact this.1
   have h5 := hf t htf
   rw [hget t htn] at h5
   exact h5
def InitF {E : TypeId} {B : Nat} (w : World) : List (Fk E B) → List Value → Prop
 | s :: L, v :: l => s.on w v ∧ InitF w L l
 | _, _ => True
theorem InitF.at {E : TypeId} {B : Nat} {w : World} : ∀ {L : List (Fk E B)} {l : List Value}, InitF w L l → ∀ t, t < L.length → t < l.length → (L.getD t Fk.any).on w (l.getD t undef)
 | [], _, _, t, h, _ => by simp at h
 | _ :: _, [], _, t, _, h => by simp at h
 | s :: L, v :: l, h, 0, _, _ => h.1
 | s :: L, v :: l, h, t + 1, h1, h2 => InitF.at h.2 t (by simpa using h1) (by simpa using h2)
section
variable {P : Program} {ops : Array Oper} {n : Nat} {E : TypeId} {B : Nat} {L0 L1 : Nat → Fk E B} {J : World → Prop} {i : Nat} {o : Oper}
def OpdV (ops : Array Oper) (n : Nat) (L0 L1 : Nat → Fk E B) (i : Nat) : Operand → Value → Prop
 | .tmp t, v => t < n ∧ ∃ b, late ops i t = b ∧ ∀ w u, (if b then L1 t else L0 t).on w u → u = v
 | .const c, v => c = v
 | _, _ => False
theorem OpdV.eval {x : Operand} {v : Value} (h : OpdV ops n L0 L1 i x v) {a : Act} {w : World} (hx : x ∈ o.op.operands.toList) (hl : ∀ t ∈ o.looksAt ops, t < n → (if late ops i t then L1 t else L0 t).on w (a.tmps.getD t undef)) : a.eval x = v := by
 cases x with
 | tmp t =>
   obtain ⟨h1, b, h2, h3⟩ := h
   have := hl t (by simp only [Oper.looksAt, List.mem_append, List.mem_filterMap]; exact .inl ⟨.tmp t, by simpa using hx, rfl⟩) h1
   rw [h2] at this
   exact h3 w _ this
 | const c => exact h
 | global g => exact h.elim
 | func f => exact h.elim
theorem AppPost.lin {w0 w w' : World} {v0 v : Value} {ys : List Nat} {e : Ending} {n : Nat} {xs : List Value} (h : AppPost w v ys e w') (ho : Own w 5 1 v n xs) (hs : Step w0 v0 w v) (hi : Hi v B) (hB : B ≤ w.heap.size) :
   ∃ v', e = .returned v' ∧ URow 5 B w w' ∧ (Fk.own (E := 5) (B := B) w0 v0 ys).on w' v' := by
 obtain ⟨v', rfl, h1, h2⟩ := h
 refine ⟨v', rfl, ⟨_, h2.1, fun k hk => ⟨hi k hk, ?_⟩⟩, h1, hs.trans h2, hi.step h2 hB⟩
 rcases ho.2 with ⟨hn, _⟩ | ⟨g, cap, cur, hvv, _, hgg, _⟩
 · rw [hn] at hk; simp [Value.ownBlock] at hk
 · rw [hvv] at hk
   simp [Value.ownBlock] at hk
   subst hk
   exact ⟨_, _, hgg⟩
end
end
/-! ## App3 -/
section
open Go.RowKit
theorem tyRow {w : World} {v : Value} {n m : Nat} {xs : List Value} (h : Sl w n v m xs) : TY Try.prog 60 [v] v := by
 obtain ⟨ao, cap, rfl, _⟩ := h.shape
 exact TY.one' Try.underlying60 rfl (by kernel_rfl) rfl
theorem range_row {w : World} {b : Nat} {C : Array Value} {t : TypeId} {fr : Nat × Nat} (h : w.heap[b]? = some (.cells C t fr)) (o : Nat) (l : List Value) (hd : (C.toList.drop o).take l.length = l) : w.rangeAt b o l := fun j v hj => by
 rw [cell_of_row w b _ _ t fr h]
 have hjl := (List.getElem?_eq_some_iff.1 hj).1
 rw [← hd] at hj
 rw [List.getElem?_take, if_pos hjl, List.getElem?_drop] at hj
 simpa using hj
def ecells (p : Value × En) : List Value := [p.1, .int .i64 p.2.count]
def DBag (B : Nat) (w : World) (s : Value) (ps : List (Value × En)) : Prop := Sl w 2 s ps.length (ps.flatMap ecells) ∧ Lo s B ∧ ∀ p ∈ ps, DRow B w p.1 p.2.row
theorem DBag.below {B : Nat} {w w' : World} {s : Value} {ps : List (Value × En)} (h : DBag B w s ps) (hb : Below B w w') : DBag B w' s ps := ⟨h.1.below hb h.2.1, h.2.1, fun p hp => (h.2.2 p hp).below hb⟩
set_option linter.unusedVariables false
end
/-! ## Ops4 -/
section
open Go.RowKit
def Sp.and (a b : Sp) : Sp := ⟨fun w v => a.on w v ∧ b.on w v, fun w w' v hg h => ⟨a.mono w w' v hg h.1, b.mono w w' v hg h.2⟩⟩
def keepL (L : List Sp) (l0 : List Value) (m : List Bool) : List Sp := (List.range L.length).map fun t => if m.getD t false then L.getD t Sp.any else Sp.and (L.getD t Sp.any) (Sp.is (l0.getD t undef))
theorem keepL_at (L : List Sp) (l0 : List Value) (m : List Bool) {t : Nat} (ht : t < L.length) (w : World) (v : Value) : At (keepL L l0 m) t w v ↔ At L t w v ∧ (m.getD t false = false → v = l0.getD t undef) := by
 unfold At keepL
 rw [List.getD_eq_getElem?_getD, List.getElem?_map, List.getElem?_range ht, Option.map_some, Option.getD_some]
 cases hm : m.getD t false with
 | true => simp
 | false => simp only [Bool.false_eq_true, if_false, forall_const]; exact Iff.rfl
theorem region_listF {P : Program} {Q : Exit → Act → World → Prop} {id : Nat} {ops : List Oper} {l0 : List Value} {ds : List Deferred} {w0 : World} (hm : P.follows .mixedOrders = true) (L : List Sp) (m : List Bool)
   (hB : regB ops.toArray L.length = true) (hm2 : dstsB ops L.length = m) (hn : l0.length = L.length)
   (h0 : InitP w0 L l0 m) (ob : ObAll P ops.toArray L L.length w0 ops)
   (hQ : ∀ (x : Nat → Value) w, w0.grownBy w none → (∀ t, t < L.length → At L t w (if m.getD t false then x t else l0.getD t undef)) → Q .normal ⟨(frameOf x 0 l0 m).toArray, ds⟩ w) :
   (Code.region id ops.toArray true).wp P Q ⟨l0.toArray, ds⟩ w0 := by
 have hml : m.length = L.length := by rw [← hm2]; simp [dstsB]
 refine region_rel hm L.length (keepL L l0 m) (by simpa using hn) hB ?_ (fun i o hi => ?_) (fun a w hg hd has hk => ?_)
 · intro t ht hnd
   have hmt : m.getD t false = false := by
     cases hmt : m.getD t false with
     | false => rfl
     | true =>
       exfalso
       rw [← hm2] at hmt
       simp only [dstsB, List.getD_eq_getElem?_getD, List.getElem?_map, List.getElem?_range ht, Option.map_some, Option.getD_some, List.any_eq_true, beq_iff_eq] at hmt
       obtain ⟨o, ho, hd⟩ := hmt
       obtain ⟨i, hi, rfl⟩ := List.getElem_of_mem ho
       exact hnd i ops[i] (by simp) hd
   rw [keepL_at L l0 m ht]
   have e : (⟨l0.toArray, ds⟩ : Act).tmps.getD t undef = l0.getD t undef := by simp [List.getD_eq_getElem?_getD]
   rw [e]
   refine ⟨?_, fun _ => rfl⟩
   rcases h0.at t ht (by omega) (by omega) with h | h
   · rw [hmt] at h; cases h
   · exact h
 · have hob := ob.at i o (by simpa using hi)
   intro a w hw hl hsz
   have h1 := hob a w hw (fun t ht htn => ((keepL_at L l0 m htn w _).1 (hl t ht htn)).1) hsz
   have hdst : ∀ d, o.dst = some d → d < L.length ∧ m.getD d false = true := by
     intro d hd
     have hdn := ((regB_spec hB hi).2.1 d hd)
     refine ⟨hdn, ?_⟩
     rw [← hm2]
     simp only [dstsB, List.getD_eq_getElem?_getD, List.getElem?_map, List.getElem?_range hdn, Option.map_some, Option.getD_some, List.any_eq_true, beq_iff_eq]
     exact ⟨o, List.mem_of_getElem? (by simpa using hi), hd⟩
   have conv : ∀ v w', (w.grownBy w' none ∧ ∀ d, o.dst = some d → At L d w' v) → (w.grownBy w' none ∧ ∀ d, o.dst = some d → At (keepL L l0 m) d w' v) := fun v w' h =>
     ⟨h.1, fun d hd => (keepL_at L l0 m (hdst d hd).1 w' v).2 ⟨h.2 d hd, fun hf => by rw [(hdst d hd).2] at hf; cases hf⟩⟩
   unfold OpSays at h1 ⊢
   split
   · rename_i hwt
     rw [if_pos hwt] at h1
     generalize (execOp a.eval o).run P w = r at *
     cases r with
     | ok nx w' =>
       cases nx <;> simp only at h1 ⊢
       all_goals first
         | exact h1.elim
         | exact conv _ _ h1
         | exact h1.mono fun e w'' ⟨v, he, hr⟩ => ⟨v, he, conv _ _ hr⟩
     | halt x w' => exact h1.elim
   · rename_i hwt
     rw [if_neg hwt] at h1
     exact conv _ _ h1
 · have hk' : ∀ t, t < L.length → At L t w (a.tmps.getD t undef) ∧ (m.getD t false = false → a.tmps.getD t undef = l0.getD t undef) := fun t ht => (keepL_at L l0 m ht w _).1 (hk t ht)
   have hget : ∀ t, t < L.length → a.tmps.getD t undef = if m.getD t false then a.tmps.getD t undef else l0.getD t undef := by
     intro t ht
     split
     · rfl
     · rename_i hmt; exact (hk' t ht).2 (by simpa using hmt)
   have e : a = ⟨(frameOf (fun t => a.tmps.getD t undef) 0 l0 m).toArray, ds⟩ := by
     obtain ⟨tm, df⟩ := a
     simp only at hd has hget ⊢
     subst hd
     congr 1
     apply Array.ext'
     refine List.ext_getElem (by rw [frameOf_len _ _ _ _ (by omega), hn]; simpa using has) fun t h1 h2 => ?_
     have h1' : t < tm.size := by simpa using h1
     have ht : t < L.length := by omega
     have h3 := frameOf_get (fun t => tm.getD t undef) 0 l0 m (by omega) t (by omega)
     rw [Nat.zero_add] at h3
     have h4 := (hget t ht).trans h3.symm
     rw [Array.getD_eq_getD_getElem?, Array.getElem?_eq_getElem h1', List.getD_eq_getElem?_getD, List.getElem?_eq_getElem (by simpa using h2)] at h4
     simpa using h4
   rw [e]
   refine hQ _ w hg fun t ht => ?_
   have h5 := (hk' t ht).1
   rw [hget t ht] at h5
   exact h5
end
end Go.Proofs.Ytkeiffccllfkpaa
