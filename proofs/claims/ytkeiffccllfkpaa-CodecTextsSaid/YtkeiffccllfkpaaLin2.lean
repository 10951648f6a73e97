/- The operations of a region that hands a row on, one law a kind. -/
import Derived.Test.YtkeiffccllfkpaaLin
import Derived.Test.YtkeiffccllfkpaaApp2
import Derived.Test.YtkeiffccllfkpaaOps3
namespace Go.Proofs.Ytkeiffccllfkpaa
open Go.RowKit

section facts
variable {E : TypeId} {B : Nat}
/-- a value known to the letter -/
def Fk.is (v : Value) : Fk E B := ⟨fun _ x => x = v, false, fun _ _ _ _ h => h, fun _ _ _ _ _ h => h⟩
def Fk.any : Fk E B := ⟨fun _ _ => True, false, fun _ _ _ _ h => h, fun _ _ _ _ _ h => h⟩
/-- a row of bytes, owned; from w0, v0 on only v0's row and new ones were written -/
def Fk.own (w0 : World) (v0 : Value) (l : List Nat) : Fk E B :=
  ⟨fun w x => Own w 5 1 x l.length (bv l) ∧ Step w0 v0 w x ∧ Hi x B, true, fun _ _ v hg h => ⟨h.1.kept hg (by cases v.ownBlock <;> simp), ⟨grown_trans h.2.1.1 (grown_none hg), h.2.1.2⟩, h.2.2⟩, fun h => by cases h⟩
/-- new cells of another type than E -/
def Fk.blk (m : Nat) (cs : List Value) (T : TypeId) (hT : T ≠ E) : Fk E B :=
  ⟨fun w x => ∃ g, x = .slice (some ⟨g, 0, none⟩) m m ∧ w.heap[g]? = some (.cells cs.toArray T (0, 0)), false, fun _ _ _ hg ⟨g, h1, h2⟩ => ⟨g, h1, row_of hg h2 (by simp)⟩, fun _ _ _ _ hu ⟨g, h1, h2⟩ => ⟨g, h1, hu.row hT h2⟩⟩
end facts

/-- what operation i has to show -/
def ObL (P : Program) (ops : Array Oper) (n : Nat) {E : TypeId} {B : Nat} (L0 L1 : Nat → Fk E B) (J : World → Prop) (q : Bool) (i : Nat) (o : Oper) : Prop :=
  ∀ a w, J w → (∀ t ∈ o.looksAt ops, t < n → (if late ops i t then L1 t else L0 t).on w (a.tmps.getD t undef)) → a.tmps.size = n →
    OpSays P ops o a w fun v w' => (if q then w.grownBy w' none else URow E B w w') ∧ ∀ d, o.dst = some d → (L1 d).on w' v
def ObLAll (P : Program) (ops : Array Oper) (n : Nat) {E : TypeId} {B : Nat} (L0 L1 : Nat → Fk E B) (J : World → Prop) : Nat → List Bool → List Oper → Prop
  | _, _, [] => True
  | _, [], _ => False
  | i, q :: qs, o :: l => ObL P ops n L0 L1 J q i o ∧ ObLAll P ops n L0 L1 J (i + 1) qs l
theorem ObLAll.at {P : Program} {ops : Array Oper} {n : Nat} {E : TypeId} {B : Nat} {L0 L1 : Nat → Fk E B} {J : World → Prop} : ∀ {l : List Oper} {qs : List Bool} {k : Nat}, ObLAll P ops n L0 L1 J k qs l → ∀ (i : Nat) (o : Oper), l[i]? = some o → ObL P ops n L0 L1 J (qs.getD i false) (k + i) o
  | [], _, _, _, i, o, hi => by simp at hi
  | _ :: _, [], _, h, _, _, _ => h.elim
  | x :: l, q :: qs, k, h, 0, o, hi => by simp at hi; subst hi; exact h.1
  | x :: l, q :: qs, k, h, i + 1, o, hi => by
    have := ObLAll.at h.2 i o (by simpa using hi)
    rw [show k + 1 + i = k + (i + 1) by omega] at this
    simpa using this
/-- the frame behind a region: what it wrote is x's, all else stands -/
def frameOf (x : Nat → Value) : Nat → List Value → List Bool → List Value
  | k, v :: l, b :: bs => (if b then x k else v) :: frameOf x (k + 1) l bs
  | _, l, [] => l
  | _, [], _ :: _ => []
theorem frameOf_len (x : Nat → Value) : ∀ (k : Nat) (l : List Value) (m : List Bool), m.length = l.length → (frameOf x k l m).length = l.length
  | _, [], [], _ => rfl
  | _, [], _ :: _, h => by simp at h
  | _, _ :: _, [], h => by simp at h
  | k, v :: l, b :: bs, h => by simp only [frameOf, List.length_cons]; rw [frameOf_len x (k + 1) l bs (by simpa using h)]
theorem frameOf_get (x : Nat → Value) : ∀ (k : Nat) (l : List Value) (m : List Bool), m.length = l.length → ∀ t, t < l.length → (frameOf x k l m).getD t undef = if m.getD t false then x (k + t) else l.getD t undef
  | _, [], _, _, t, h => by simp at h
  | _, _ :: _, [], h, _, _ => by simp at h
  | k, v :: l, b :: bs, h, 0, _ => by simp [frameOf]
  | k, v :: l, b :: bs, h, t + 1, ht => by
    have := frameOf_get x (k + 1) l bs (by simpa using h) t (by simpa using ht)
    simp only [frameOf, List.getD_cons_succ, this]
    rw [show k + 1 + t = k + (t + 1) by omega]
theorem region_linl {P : Program} {Q : Exit → Act → World → Prop} {id : Nat} {ops : List Oper} {l0v : List Value} {ds : List Deferred} {w0 : World} (hm : P.follows .mixedOrders = true) (E : TypeId) (B n : Nat) (q l0 l1 : List Bool) (fin : List Nat) (L0 L1 : List (Fk E B)) (J : World → Prop)
    (hJm : ∀ w w', URow E B w w' → J w → J w') (hJ : J w0) (hn : l0v.length = n) (hB : linB ops.toArray n q l0 l1 fin = true)
    (m : List Bool) (hm2 : dstsB ops n = m) (hl0 : L0.map (·.lin) = l0) (hl1 : L1.map (·.lin) = l1) (hL0 : L0.length = n) (hL1 : L1.length = n)
    (h0 : ∀ t, t < n → (L0.getD t Fk.any).on w0 (l0v.getD t undef))
    (ob : ObLAll P ops.toArray n (fun t => L0.getD t Fk.any) (fun t => L1.getD t Fk.any) J 0 q ops)
    (hQ : ∀ (x : Nat → Value) w, J w → (∀ t ∈ fin, (match writer ops.toArray t with | some _ => L1.getD t Fk.any | none => L0.getD t Fk.any).on w (if m.getD t false then x t else l0v.getD t undef)) → Q .normal ⟨(frameOf x 0 l0v m).toArray, ds⟩ w) :
    (Code.region id ops.toArray true).wp P Q ⟨l0v.toArray, ds⟩ w0 := by
  have gl : ∀ (L : List (Fk E B)) (l : List Bool), L.map (·.lin) = l → L.length = n → ∀ t, t < n → (L.getD t Fk.any).lin = l.getD t false := by
    intro L l h hL t ht
    subst h
    rw [List.getD_eq_getElem?_getD, List.getD_eq_getElem?_getD, List.getElem?_map, List.getElem?_eq_getElem (by omega)]
    rfl
  refine region_lin hm E B n q l0 l1 fin (fun t => L0.getD t Fk.any) (fun t => L1.getD t Fk.any) J hJm hJ (by simpa using hn) hB (gl L0 l0 hl0 hL0) (gl L1 l1 hl1 hL1) (fun t ht => ?_) (fun i o hi => ?_) (fun a w hJw hd has hfr hf => ?_)
  · have := h0 t ht
    simpa [List.getD_eq_getElem?_getD] using this
  · have := ob.at i o (by simpa using hi)
    rw [Nat.zero_add] at this
    exact this
  · have hml : m.length = l0v.length := by rw [← hm2, hn]; simp [dstsB]
    have hget : ∀ t, t < n → a.tmps.getD t undef = if m.getD t false then a.tmps.getD t undef else l0v.getD t undef := by
      intro t ht
      split
      · rfl
      · rename_i hmt
        have := hfr t (fun i o hi hd' => by
          refine hmt ?_
          rw [← hm2]
          simp only [dstsB, List.getD_eq_getElem?_getD, List.getElem?_map, List.getElem?_range ht, Option.map_some, Option.getD_some, List.any_eq_true, beq_iff_eq]
          exact ⟨o, List.mem_of_getElem? (by simpa using hi), hd'⟩)
        rw [this]
        simp [List.getD_eq_getElem?_getD]
    have e : a = ⟨(frameOf (fun t => a.tmps.getD t undef) 0 l0v m).toArray, ds⟩ := by
      obtain ⟨tm, df⟩ := a
      simp only at hd has hget ⊢
      subst hd
      congr 1
      apply Array.ext'
      refine List.ext_getElem (by rw [frameOf_len _ _ _ _ hml, hn]; simpa using has) fun t h1 h2 => ?_
      have ht : t < n := by have : t < tm.size := by simpa using h1
                            omega
      have h3 := frameOf_get (fun t => tm.getD t undef) 0 l0v m hml t (by omega)
      rw [Nat.zero_add] at h3
      have h4 := (hget t ht).trans h3.symm
      have h1' : t < tm.size := by simpa using h1
      rw [Array.getD_eq_getD_getElem?, Array.getElem?_eq_getElem h1', List.getD_eq_getElem?_getD, List.getElem?_eq_getElem (by simpa using h2)] at h4
      simpa using h4
    rw [e]
    refine hQ _ w hJw fun t htf => ?_
    have htn : t < n := by
      unfold linB at hB
      rw [Bool.and_eq_true] at hB
      have := List.all_eq_true.1 hB.2 t htf
      simp only [Bool.and_eq_true, decide_eq_true_eq] at this
      exact this.1
    have h5 := hf t htf
    rw [hget t htn] at h5
    exact h5

/-- the slots ahead of the region -/
def InitF {E : TypeId} {B : Nat} (w : World) : List (Fk E B) → List Value → Prop
  | s :: L, v :: l => s.on w v ∧ InitF w L l
  | _, _ => True
theorem InitF.at {E : TypeId} {B : Nat} {w : World} : ∀ {L : List (Fk E B)} {l : List Value}, InitF w L l → ∀ t, t < L.length → t < l.length → (L.getD t Fk.any).on w (l.getD t undef)
  | [], _, _, t, h, _ => by simp at h
  | _ :: _, [], _, t, _, h => by simp at h
  | s :: L, v :: l, h, 0, _, _ => h.1
  | s :: L, v :: l, h, t + 1, h1, h2 => InitF.at h.2 t (by simpa using h1) (by simpa using h2)

section
variable {P : Program} {ops : Array Oper} {n : Nat} {E : TypeId} {B : Nat} {L0 L1 : Nat → Fk E B} {J : World → Prop} {i : Nat} {o : Oper}
/-- an operand known to the letter -/
def OpdV (ops : Array Oper) (n : Nat) (L0 L1 : Nat → Fk E B) (i : Nat) : Operand → Value → Prop
  | .tmp t, v => t < n ∧ ∃ b, late ops i t = b ∧ ∀ w u, (if b then L1 t else L0 t).on w u → u = v
  | .const c, v => c = v
  | _, _ => False
theorem OpdV.eval {x : Operand} {v : Value} (h : OpdV ops n L0 L1 i x v) {a : Act} {w : World} (hx : x ∈ o.op.operands.toList) (hl : ∀ t ∈ o.looksAt ops, t < n → (if late ops i t then L1 t else L0 t).on w (a.tmps.getD t undef)) : a.eval x = v := by
  cases x with
  | tmp t =>
    obtain ⟨h1, b, h2, h3⟩ := h
    have := hl t (by simp only [Oper.looksAt, List.mem_append, List.mem_filterMap]; exact .inl ⟨.tmp t, by simpa using hx, rfl⟩) h1
    rw [h2] at this
    exact h3 w _ this
  | const c => exact h
  | global g => exact h.elim
  | func f => exact h.elim
/-- what is known of an operand's slot -/
theorem slotV {t : Nat} {b : Bool} (hx : Operand.tmp t ∈ o.op.operands.toList) (ht : t < n) (hb : late ops i t = b) {a : Act} {w : World} (hl : ∀ t ∈ o.looksAt ops, t < n → (if late ops i t then L1 t else L0 t).on w (a.tmps.getD t undef)) : (if b then L1 t else L0 t).on w (a.tmps.getD t undef) := by
  have := hl t (by simp only [Oper.looksAt, List.mem_append, List.mem_filterMap]; exact .inl ⟨.tmp t, by simpa using hx, rfl⟩) ht
  rwa [hb] at this
theorem lo_run (hg : o.guard = none) (h : ∀ (a : Act) w, J w → (∀ t ∈ o.looksAt ops, t < n → (if late ops i t then L1 t else L0 t).on w (a.tmps.getD t undef)) → ∃ v, (execOp a.eval o).run P w = .ok (.value v) w ∧ ∀ d, o.dst = some d → (L1 d).on w v) : ObL P ops n L0 L1 J true i o := by
  intro a w hw hl hs
  unfold OpSays
  have hwant : Region.wanted o (yielded ops a.tmps) = true := by simp [Region.wanted, hg]
  rw [if_pos hwant]
  obtain ⟨v, hr, hv⟩ := h a w hw hl
  rw [hr]
  exact ⟨by rw [if_pos rfl]; exact World.grownBy.refl _ _, hv⟩
theorem lo_move (s d : Nat) (b : Bool) (ho : o.op = .move (.tmp s) ∨ o.op = .assign (.tmp s)) (hd : o.dst = some d) (hg : o.guard = none) (hs : s < n) (hb : late ops i s = b) (h : ∀ w v, (if b then L1 s else L0 s).on w v → (L1 d).on w v) : ObL P ops n L0 L1 J true i o := by
  refine lo_run hg fun a w hw hl => ⟨a.tmps.getD s undef, ?_, fun d' hd' => ?_⟩
  · rcases ho with ho | ho <;> simp [execOp, ho, Act.eval]
  · rw [hd] at hd'
    obtain rfl := Option.some.inj hd'
    exact h w _ (slotV (o := o) (by rcases ho with ho | ho <;> simp [ho, Op.operands]) hs hb hl)
theorem lo_field {ty : TypeId} {x : Operand} {k d : Nat} {p v : Value} (ho : o.op = .fieldAddr ty x k) (hd : o.dst = some d) (hg : o.guard = none) (hx : OpdV ops n L0 L1 i x p) (hrun : ∀ w, (Instr.fieldAt ty p k).run P w = .ok v w) (hv : ∀ w, (L1 d).on w v) : ObL P ops n L0 L1 J true i o := by
  refine lo_run hg fun a w hw hl => ⟨v, ?_, fun d' hd' => ?_⟩
  · have e1 := hx.eval (o := o) (by simp [ho, Op.operands]) hl
    simp only [execOp, ho, e1, Sem.run_bind, Sem.run_pure, Result.andThen_ok, hrun w]
  · rw [hd] at hd'
    obtain rfl := Option.some.inj hd'
    exact hv w
theorem lo_index {ty : TypeId} {x y : Operand} {d : Nat} {p k v : Value} (ho : o.op = .indexAddr ty x y) (hd : o.dst = some d) (hg : o.guard = none) (hx : OpdV ops n L0 L1 i x p) (hy : OpdV ops n L0 L1 i y k) (hrun : ∀ w, (Instr.indexAt ty p k).run P w = .ok v w) (hv : ∀ w, (L1 d).on w v) : ObL P ops n L0 L1 J true i o := by
  refine lo_run hg fun a w hw hl => ⟨v, ?_, fun d' hd' => ?_⟩
  · have e1 := hx.eval (o := o) (by simp [ho, Op.operands]) hl
    have e2 := hy.eval (o := o) (by simp [ho, Op.operands]) hl
    simp only [execOp, ho, e1, e2, Sem.run_bind, Sem.run_pure, Result.andThen_ok, hrun w]
  · rw [hd] at hd'
    obtain rfl := Option.some.inj hd'
    exact hv w
theorem lo_load {ty : TypeId} {x : Operand} {b off d : Nat} {v : Value} {cs : List Value} (ho : o.op = .load ty x) (hd : o.dst = some d) (hg : o.guard = none) (hx : OpdV ops n L0 L1 i x (.pointer (some ⟨b, off, none⟩)))
    (hT : TY P ty cs v) (hc : ∀ w, J w → w.rangeAt b off cs) (hv : ∀ w, J w → (L1 d).on w v) : ObL P ops n L0 L1 J true i o := by
  refine lo_run hg fun a w hw hl => ⟨v, ?_, fun d' hd' => ?_⟩
  · have e1 := hx.eval (o := o) (by simp [ho, Op.operands]) hl
    simp only [execOp, ho, e1, Instr.loadAt, Instr.sureAddr, Sem.run_bind, Sem.run_pure, Result.andThen_ok, hT.load w b off (hc w hw)]
  · rw [hd] at hd'
    obtain rfl := Option.some.inj hd'
    exact hv w hw
/-- a slice of integers made of its parts -/
theorem lo_ints {ty e : TypeId} {m d : Nat} {ps : Array (Nat × Operand)} {cs : List Value} (hT : e ≠ E) (ho : o.op = .buildSlice ty m ps) (hd : o.dst = some d) (hg : o.guard = none)
    (hx : ∀ (a : Act) w, (∀ t ∈ o.looksAt ops, t < n → (if late ops i t then L1 t else L0 t).on w (a.tmps.getD t undef)) → (Instr.buildSlice ty m (ps.map fun (i, x) => (i, a.eval x))).run P w = .ok (.slice (some ⟨w.heap.size, 0, none⟩) m m) (w.alloc (.cells cs.toArray e)))
    (hv : ∀ w v, (Fk.blk (B := B) m cs e hT).on w v → (L1 d).on w v) : ObL P ops n L0 L1 J true i o := by
  intro a w hw hl hs
  unfold OpSays
  have hwant : Region.wanted o (yielded ops a.tmps) = true := by simp [Region.wanted, hg]
  rw [if_pos hwant]
  have hr := hx a w hl
  simp only [execOp, ho, Sem.run_bind, Sem.run_pure, hr, Result.andThen_ok]
  refine ⟨by rw [if_pos trivial]; exact World.grownBy_alloc _ _ _, fun d' hd' => ?_⟩
  rw [hd] at hd'
  obtain rfl := Option.some.inj hd'
  exact hv _ _ ⟨w.heap.size, rfl, heap_at rfl⟩
/-- a call of a function by its number -/
theorem lo_call {f : Nat} {d : Nat} {args : Array Operand} {tys : Array TypeId} (q : Bool) (ho : o.op = .call { callee := .value (.func f), args := args, argTypes := tys }) (hd : o.dst = some d) (hg : o.guard = none)
    (hrun : ∀ (av : Array Value) w, ((Deferred.ofValue (.func (.func f) #[] #[]) av).run P w).andThen (fun a w' => (invoke a.target a.args).run P w') = .ok (.enter f av) w)
    (hc : ∀ (a : Act) w, J w → (∀ t ∈ o.looksAt ops, t < n → (if late ops i t then L1 t else L0 t).on w (a.tmps.getD t undef)) →
      Calls P f (args.map a.eval) w fun e w' => ∃ v, e = .returned v ∧ (if q then w.grownBy w' none else URow E B w w') ∧ (L1 d).on w' v) : ObL P ops n L0 L1 J q i o := by
  intro a w hw hl hs
  unfold OpSays
  have hwant : Region.wanted o (yielded ops a.tmps) = true := by simp [Region.wanted, hg]
  rw [if_pos hwant]
  have hr : (execOp a.eval o).run P w = .ok (.enter f (args.map a.eval)) w := by
    simp only [execOp, ho, resolve, Act.eval, Sem.run_bind]
    exact hrun (args.map a.eval) w
  rw [hr]
  refine (hc a w hw hl).mono fun e w' ⟨v, he, h1, h2⟩ => ⟨v, he, h1, fun d' hd' => ?_⟩
  rw [hd] at hd'
  obtain rfl := Option.some.inj hd'
  exact h2
/-- append of owned bytes to owned bytes -/
theorem lo_app {d s x : Nat} {bs bx : Bool} {w0 : World} {v0 : Value} {xs ys : List Nat} (hE : E = 5) (hP : P = Try.prog) (ho : o.op = .call { callee := .builtin .append, args := #[.tmp s, .tmp x], argTypes := #[22, 22] }) (hd : o.dst = some d) (hg : o.guard = none) (hs : s < n) (hx : x < n)
    (hbs : late ops i s = bs) (hbx : late ops i x = bx) (h1 : ∀ w v, (if bs then L1 s else L0 s).on w v → (Fk.own (E := E) (B := B) w0 v0 xs).on w v) (h2 : ∀ w v, J w → (if bx then L1 x else L0 x).on w v → Sl w 1 v ys.length (bv ys)) (h63 : xs.length + ys.length ≤ 1099511627776)
    (hJB : ∀ w, J w → B ≤ w.heap.size) (hv : ∀ w v, (Fk.own (E := E) (B := B) w0 v0 (xs ++ ys)).on w v → (L1 d).on w v) : ObL P ops n L0 L1 J false i o := by
  subst hE hP
  intro a w hw hl hsz
  unfold OpSays
  have hwant : Region.wanted o (yielded ops a.tmps) = true := by simp [Region.wanted, hg]
  rw [if_pos hwant]
  obtain ⟨o1, o2, o3⟩ := h1 w _ (slotV (o := o) (by simp [ho, Op.operands, Call.operands]) hs hbs hl)
  have hsl := h2 w _ hw (slotV (o := o) (by simp [ho, Op.operands, Call.operands]) hx hbx hl)
  obtain ⟨v', w', hr, r1, r2⟩ := run_app bytesT o.type o1 hsl (bv_cells _) h63
  have hev : a.eval (.tmp s) = a.tmps.getD s undef ∧ a.eval (.tmp x) = a.tmps.getD x undef := ⟨rfl, rfl⟩
  have hrun : (execOp a.eval o).run Try.prog w = .ok (.value v') w' := by
    simp only [execOp, ho, resolve, invoke, builtin, Sem.run_bind, Sem.run_pure, Result.andThen_ok, List.map_toArray, List.map_cons, List.map_nil, hev.1, hev.2, hr]
  rw [hrun]
  refine ⟨?_, fun d' hd' => ?_⟩
  · rw [if_neg (by simp)]
    refine ⟨_, r2.1, fun k hk => ⟨o3 k hk, ?_⟩⟩
    rcases o1.2 with ⟨hn, _⟩ | ⟨g, cap, cur, hvv, _, hgg, _⟩
    · rw [hn] at hk; simp [Value.ownBlock] at hk
    · rw [hvv] at hk
      simp [Value.ownBlock] at hk
      subst hk
      exact ⟨_, _, hgg⟩
  · rw [hd] at hd'
    obtain rfl := Option.some.inj hd'
    exact hv _ _ ⟨by rw [List.length_append, bv_append]; exact r1, o2.trans r2, o3.step r2 (hJB w hw)⟩
/-- what a program's appender leaves, as a region takes it -/
theorem AppPost.lin {w0 w w' : World} {v0 v : Value} {ys : List Nat} {e : Ending} {n : Nat} {xs : List Value} (h : AppPost w v ys e w') (ho : Own w 5 1 v n xs) (hs : Step w0 v0 w v) (hi : Hi v B) (hB : B ≤ w.heap.size) :
    ∃ v', e = .returned v' ∧ URow 5 B w w' ∧ (Fk.own (E := 5) (B := B) w0 v0 ys).on w' v' := by
  obtain ⟨v', rfl, h1, h2⟩ := h
  refine ⟨v', rfl, ⟨_, h2.1, fun k hk => ⟨hi k hk, ?_⟩⟩, h1, hs.trans h2, hi.step h2 hB⟩
  rcases ho.2 with ⟨hn, _⟩ | ⟨g, cap, cur, hvv, _, hgg, _⟩
  · rw [hn] at hk; simp [Value.ownBlock] at hk
  · rw [hvv] at hk
    simp [Value.ownBlock] at hk
    subst hk
    exact ⟨_, _, hgg⟩
/-- an appender at a known argument -/
theorem lo_app1 {f d s : Nat} {x : Operand} {tys : Array TypeId} {xv : Value} {b : Bool} {w0 : World} {v0 : Value} {xs ys : List Nat} {L0 L1 : Nat → Fk 5 B} (ho : o.op = .call { callee := .value (.func f), args := #[.tmp s, x], argTypes := tys }) (hd : o.dst = some d) (hg : o.guard = none) (hs : s < n) (hb : late ops i s = b)
    (hrun : ∀ (av : Array Value) w, ((Deferred.ofValue (.func (.func f) #[] #[]) av).run P w).andThen (fun a w' => (invoke a.target a.args).run P w') = .ok (.enter f av) w)
    (h1 : ∀ w v, (if b then L1 s else L0 s).on w v → (Fk.own (E := 5) (B := B) w0 v0 xs).on w v) (hx : OpdV ops n L0 L1 i x xv) (hP : P = Try.prog)
    (hc : ∀ w v, J w → Own w 5 1 v xs.length (bv xs) → Hi v B → Calls Try.prog f #[v, xv] w (AppPost w v (xs ++ ys))) (hJB : ∀ w, J w → B ≤ w.heap.size)
    (hv : ∀ w v, (Fk.own (E := 5) (B := B) w0 v0 (xs ++ ys)).on w v → (L1 d).on w v) : ObL P ops n L0 L1 J false i o := by
  subst hP
  refine lo_call false ho hd hg hrun fun a w hw hl => ?_
  have e1 := hx.eval (o := o) (by simp [ho, Op.operands, Call.operands]) hl
  obtain ⟨o1, o2, o3⟩ := h1 w _ (slotV (o := o) (by simp [ho, Op.operands, Call.operands]) hs hb hl)
  have ea : Array.map a.eval #[.tmp s, x] = #[a.tmps.getD s undef, xv] := by
    simp only [List.map_toArray, List.map_cons, List.map_nil, e1]
    rfl
  rw [ea]
  refine (hc w _ hw o1 o3).mono fun e w' h => ?_
  obtain ⟨v', he, h2, h3⟩ := h.lin o1 o2 o3 (hJB w hw)
  exact ⟨v', he, by rw [if_neg (by simp)]; exact h2, hv _ _ h3⟩
/-- the program's ints at integers that were just laid -/
theorem lo_ints2 {d s x : Nat} {tys : Array TypeId} {b bx : Bool} {w0 : World} {v0 : Value} {xs : List Nat} {ns : List Int} {m : Nat} {T : TypeId} {L0 L1 : Nat → Fk 5 B} (hT : T ≠ 5) (ho : o.op = .call { callee := .value (.func 89), args := #[.tmp s, .tmp x], argTypes := tys }) (hd : o.dst = some d) (hg : o.guard = none) (hs : s < n) (hx : x < n) (hb : late ops i s = b) (hbx : late ops i x = bx)
    (hrun : ∀ (av : Array Value) w, ((Deferred.ofValue (.func (.func 89) #[] #[]) av).run P w).andThen (fun a w' => (invoke a.target a.args).run P w') = .ok (.enter 89 av) w)
    (h1 : ∀ w v, (if b then L1 s else L0 s).on w v → (Fk.own (E := 5) (B := B) w0 v0 xs).on w v) (h2 : ∀ w v, (if bx then L1 x else L0 x).on w v → (Fk.blk (E := 5) (B := B) m (ns.map (Value.int .i64)) T hT).on w v) (hm : m = ns.length) (hP : P = Try.prog)
    (hr : ∀ k ∈ ns, I64 k) (hlen : xs.length + 10 * ns.length ≤ 1099511627776) (hJB : ∀ w, J w → B ≤ w.heap.size)
    (hv : ∀ w v, (Fk.own (E := 5) (B := B) w0 v0 (xs ++ ns.flatMap enc)).on w v → (L1 d).on w v) : ObL P ops n L0 L1 J false i o := by
  subst hP hm
  refine lo_call false ho hd hg hrun fun a w hw hl => ?_
  obtain ⟨o1, o2, o3⟩ := h1 w _ (slotV (o := o) (by simp [ho, Op.operands, Call.operands]) hs hb hl)
  obtain ⟨g, hg1, hg2⟩ := h2 w _ (slotV (o := o) (by simp [ho, Op.operands, Call.operands]) hx hbx hl)
  have ea : Array.map a.eval #[.tmp s, .tmp x] = #[a.tmps.getD s undef, .slice (some ⟨g, 0, none⟩) ns.length ns.length] := by simp only [List.map_toArray, List.map_cons, List.map_nil, Act.eval, hg1]
  rw [ea]
  have hs : Sl w 1 (.slice (some ⟨g, 0, none⟩) ns.length ns.length) ns.length (ns.map (Value.int .i64)) :=
    ⟨by simp, _, _, rfl, Nat.le_refl _, by unfold maxLen; omega, fun h => (by cases h), fun a ha => by
      obtain rfl := Option.some.inj ha
      refine ⟨rfl, fun j u hu => ?_⟩
      rw [Nat.zero_add, cell_of_row w g j _ _ _ hg2]
      simpa using hu⟩
  refine (ints_walk _ _ xs ns w o1 hs (.inr fun e => ?_) hr hlen).mono fun e w' h => ?_
  · exact Own.ne o1 hg2 (fun h => hT h.symm) e.symm
  · obtain ⟨v', he, h2, h3⟩ := AppPost.lin (ys := xs ++ ns.flatMap enc) h o1 o2 o3 (hJB w hw)
    exact ⟨v', he, by rw [if_neg (by simp)]; exact h2, hv _ _ h3⟩
/-- a function that makes its bytes anew, at known arguments -/
theorem lo_fresh {f d : Nat} {args : Array Operand} {tys : Array TypeId} {av : List Value} {w0 : World} {ys : List Nat} {L0 L1 : Nat → Fk 5 B} (ho : o.op = .call { callee := .value (.func f), args := args, argTypes := tys }) (hd : o.dst = some d) (hg : o.guard = none)
    (hrun : ∀ (av : Array Value) w, ((Deferred.ofValue (.func (.func f) #[] #[]) av).run P w).andThen (fun a w' => (invoke a.target a.args).run P w') = .ok (.enter f av) w)
    (hx : ∀ (a : Act) w, J w → (∀ t ∈ o.looksAt ops, t < n → (if late ops i t then L1 t else L0 t).on w (a.tmps.getD t undef)) → ∃ av : Array Value, args.map a.eval = av ∧ Calls P f av w fun e w' => ∃ v', e = .returned v' ∧ Own w' 5 1 v' ys.length (bv ys) ∧ Fresh w w' v')
    (hJ0 : ∀ w, J w → w0.grownBy w none ∧ B ≤ w.heap.size)
    (hv : ∀ w v, (Fk.own (E := 5) (B := B) w0 nilS ys).on w v → (L1 d).on w v) : ObL P ops n L0 L1 J true i o := by
  refine lo_call true ho hd hg hrun fun a w hw hl => ?_
  obtain ⟨av, ea, hc⟩ := hx a w hw hl
  rw [ea]
  refine hc.mono fun e w' ⟨v', he, h1, h2⟩ => ⟨v', he, by rw [if_pos rfl]; exact h2.1, hv _ _ ⟨h1, Step.grown (hJ0 w hw).1 h2, fun k hk => ?_⟩⟩
  rcases h2.2 k hk with h | h
  · simp [Value.ownBlock] at h
  · exact Nat.le_trans (hJ0 w hw).2 h
end
end Go.Proofs.Ytkeiffccllfkpaa
