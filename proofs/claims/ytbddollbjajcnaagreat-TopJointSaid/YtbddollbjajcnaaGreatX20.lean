/- The evaluator: one operation. -/
import Derived.Test.YtbddollbjajcnaaGreatX19
namespace Go.Proofs.YtbddollbjajcnaaGreat
open Go
noncomputable section
set_option linter.unusedVariables false
set_option linter.unusedSimpArgs false
variable {P : Program}
def ob {A B : Type} (x : Option A) (g : A → Option B) : Option B := Option.rec (motive := fun _ => Option B) none g x
theorem ob_some {A B : Type} {x : Option A} {g : A → Option B} {y : B} (h : ob x g = some y) : ∃ a, x = some a ∧ g a = some y := by
  cases x with
  | none => cases h
  | some a => exact ⟨a, rfl, h⟩
theorem bif_some {B : Type} {c : Bool} {x : Option B} {y : B} (h : (bif c then x else none) = some y) : c = true ∧ x = some y := by
  cases c with
  | false => cases h
  | true => exact ⟨rfl, h⟩
theorem bif_none {B : Type} {c : Bool} {x : Option B} {y : B} (h : (bif c then none else x) = some y) : c = false ∧ x = some y := by
  cases c with
  | true => cases h
  | false => exact ⟨rfl, h⟩
/-- two cells that stand for numbers, texts or truth values -/
def binLit (b : BinOp) (t : TypeId) (c d : XC) : Option XV := ob (litX c) fun u => ob (litX d) fun v => binNum b t u v
theorem binLit_says {α : XM} {b : BinOp} {t : TypeId} {c d : XC} {u v : Value} (hu : CR α c u) (hv : CR α d v) {x : XV} (hx : binLit b t c d = some x) : BinSays P α b t u v x := by
  obtain ⟨u', h1, hx⟩ := ob_some hx
  obtain ⟨v', h2, hx⟩ := ob_some hx
  obtain rfl := litX_ok h1 hu
  obtain rfl := litX_ok h2 hv
  intro y z w
  unfold binNum at hx
  split at hx
  · obtain ⟨r, h3, h4⟩ := pureX_ok (P := P) (α := α) hx w
    rename_i k1 n1 k2 n2 _
    refine ⟨r, ?_, h4⟩
    have : (eqGuard b t y z (.int k1 n1) (.int k2 n2)).run P w = .ok () w := by unfold eqGuard; cases b <;> simp
    simp only [Sem.run_bind, this, Result.andThen_ok, h3]
  · obtain ⟨r, h3, h4⟩ := pureX_ok (P := P) (α := α) hx w
    rename_i s1 s2 _
    refine ⟨r, ?_, h4⟩
    have : (eqGuard b t y z (.string s1) (.string s2)).run P w = .ok () w := by unfold eqGuard; cases b <;> simp
    simp only [Sem.run_bind, this, Result.andThen_ok, h3]
  · cases hx
def eqNe (b : BinOp) (r : Option Bool) : Option XV :=
  match b with
  | .eql => ob r fun r => some (.one (.bool r))
  | .neq => ob r fun r => some (.one (.bool (Bool.not r)))
  | _ => none
theorem nilEq_says {α : XM} {b : BinOp} {t : TypeId} {c d : XC} {u v : Value} (hu : CR α c u) (hv : CR α d v) {x : XV} (hx : eqNe b (nilEq P t c d) = some x) : BinSays P α b t u v x := by
  intro y z w
  unfold eqNe at hx
  split at hx
  · obtain ⟨r, h1, h2⟩ := ob_some hx
    cases h2
    obtain ⟨e1, e2, e3, e4⟩ := nilEq_ok (P := P) hu hv h1 y z w
    exact ⟨.bool r, by simp only [Sem.run_bind, e1, Result.andThen_ok, e3], rfl⟩
  · obtain ⟨r, h1, h2⟩ := ob_some hx
    cases h2
    obtain ⟨e1, e2, e3, e4⟩ := nilEq_ok (P := P) hu hv h1 y z w
    exact ⟨.bool (!r), by simp only [Sem.run_bind, e2, Result.andThen_ok, e4], rfl⟩
  · cases hx
def boolEq (P : Program) (t : TypeId) (p q : Bool) : Option Bool :=
  match P.underlying t with
  | some .bool => some (match p, q with | true, true => true | false, false => true | _, _ => false)
  | _ => none
theorem eq_bool {t : TypeId} (hu : P.underlying t = some .bool) (p q : Bool) (w : World) : (Op.equal t (.bool p) (.bool q)).run P w = .ok (p == q) w := equal_step fun d => by
  unfold Op.equalIn; simp [run_underlying hu]
theorem boolEq_says {α : XM} {b : BinOp} {t : TypeId} {p q : Bool} {x : XV} (hx : eqNe b (boolEq P t p q) = some x) : BinSays P α b t (.bool p) (.bool q) x := by
  intro y z w
  have key : ∀ r, boolEq P t p q = some r → (Op.equal t (.bool p) (.bool q)).run P w = .ok r w := fun r hr => by
    unfold boolEq at hr
    split at hr
    · rename_i hu
      rw [eq_bool hu]
      cases hr
      cases p <;> cases q <;> rfl
    · cases hr
  unfold eqNe at hx
  split at hx
  · obtain ⟨r, h1, h2⟩ := ob_some hx
    cases h2
    exact ⟨.bool r, by simp [eqGuard, binOp, key r h1], rfl⟩
  · obtain ⟨r, h1, h2⟩ := ob_some hx
    cases h2
    exact ⟨.bool (!r), by simp [eqGuard, binOp, key r h1], rfl⟩
  · cases hx
def binCell (P : Program) (b : BinOp) (t : TypeId) (c d : XC) : Option XV :=
  match c with
  | .per k i e => match d with
    | .per k' j e' => bif e then none else bif e' then none else bif kindEq k k' then ob (perBin b i j) fun r => some (.one (.bool r)) else none
    | .int k' n => bif e then none else bif kindEq k k' then bif Nat.ble i.nat 4 then ob (perCon b n) fun r => some (.one (.bool r)) else none else none
    | _ => none
  | .int k n => match d with
    | .per k' i e => bif kindEq k k' then bif Nat.ble i.nat 4 then (match e with
        | true => (match b with | .add => bif intEq n 1 then some (.one (.per k i false)) else none | _ => none)
        | false => ob (conPer b n) fun r => some (.one (.bool r))) else none else none
    | .int _ _ => binLit b t c d
    | _ => none
  | .str _ => binLit b t c d
  | .bool p => match d with
    | .bool q => eqNe b (boolEq P t p q)
    | _ => none
  | _ => eqNe b (nilEq P t c d)
theorem binCell_says {α : XM} (h : SymOK α) {b : BinOp} {t : TypeId} {c d : XC} {u v : Value} (hu : CR α c u) (hv : CR α d v) {x : XV} (hx : binCell P b t c d = some x) : BinSays P α b t u v x := by
  unfold binCell at hx
  split at hx
  · rename_i k i e
    split at hx
    · rename_i k' j e'
      obtain ⟨he, hx⟩ := bif_none hx
      obtain ⟨he', hx⟩ := bif_none hx
      obtain ⟨hk, hx⟩ := bif_some hx
      obtain ⟨r, h1, h2⟩ := ob_some hx
      cases h2
      obtain rfl := kindEq_ok hk
      subst he he'
      exact perBin_says h hu hv h1
    · rename_i k' n
      obtain ⟨he, hx⟩ := bif_none hx
      obtain ⟨hk, hx⟩ := bif_some hx
      obtain ⟨hi, hx⟩ := bif_some hx
      obtain ⟨r, h1, h2⟩ := ob_some hx
      cases h2
      obtain rfl := kindEq_ok hk
      subst he
      obtain rfl := hv
      exact perCon_says h hi hu h1
    · cases hx
  · rename_i k n
    split at hx
    · rename_i k' i e
      obtain ⟨hk, hx1⟩ := bif_some hx
      clear hx
      obtain ⟨hi, hx2⟩ := bif_some hx1
      clear hx1
      obtain rfl := kindEq_ok hk
      obtain rfl := hu
      split at hx2
      · split at hx2
        · obtain ⟨hn, hx3⟩ := bif_some hx2
          cases hx3
          obtain rfl := intEq_ok.1 hn
          exact addPer_says h hi hv
        · cases hx2
      · obtain ⟨r, h1, h2⟩ := ob_some hx2
        cases h2
        exact conPer_says h hi hv h1
    · exact binLit_says hu hv hx
    · cases hx
  · exact binLit_says hu hv hx
  · split at hx
    · obtain rfl := hu
      obtain rfl := hv
      exact boolEq_says hx
    · cases hx
  · exact nilEq_says hu hv hx
def binX (P : Program) (b : BinOp) (t : TypeId) (x y : XV) : Option XV :=
  match x with
  | .one c => match y with
    | .one d => binCell P b t c d
    | _ => none
  | .agg l => match y with
    | .agg m => ob (eqShape P t) fun sh => bif fitsC sh l then bif fitsC sh m then eqNe b (cellsEq l m) else none else none
    | _ => none
  | _ => none
theorem binX_says {α : XM} (h : SymOK α) {b : BinOp} {t : TypeId} {x y : XV} {u v : Value} (hu : VR α x u) (hv : VR α y v) {r : XV} (hx : binX P b t x y = some r) : BinSays P α b t u v r := by
  unfold binX at hx
  split at hx
  · split at hx
    · exact binCell_says h hu hv hx
    · cases hx
  · split at hx
    · obtain ⟨sh, h1, hx⟩ := ob_some hx
      obtain ⟨f1, hx⟩ := bif_some hx
      obtain ⟨f2, hx⟩ := bif_some hx
      unfold eqNe at hx
      split at hx
      · obtain ⟨q, h2, h3⟩ := ob_some hx
        cases h3
        exact (aggEq_says h h1 hu hv f1 f2 h2).1
      · obtain ⟨q, h2, h3⟩ := ob_some hx
        cases h3
        exact (aggEq_says h h1 hu hv f1 f2 h2).2
      · cases hx
    · cases hx
  · cases hx
theorem ok_bin {o : Oper} {a : Act} {α : XM} {s : XS} {w : World} {f : XF} (h : HR α s w) (k : FR1 α f a) {b : BinOp} {t t2 : TypeId} {y z : Operand} (ho : o.op = .binOp b t y z t2) {c d x : XV} (hy : evX f y = some c) (hz : evX f z = some d) (hx : binX P b t c d = some x) : OpOK P o a α s w x s := by
  obtain ⟨r, h3, h4⟩ := binX_says (P := P) h.sym (evX_ok k hy) (evX_ok k hz) hx y z w
  refine OpOK.pure (v := r) ?_ h4 h
  simp only [Sem.run_bind] at h3
  simp only [execOp, ho, Sem.run_bind, h3]
  rfl
theorem ok_nilFn {o : Oper} {a : Act} {α : XM} {s : XS} {w : World} {f : XF} (h : HR α s w) (k : FR1 α f a) {y : Operand} (ho : o.op = .nilCheck y) {g : FuncId} {xs ys : List (Option XA)} (hy : evX f y = some (.one (.fn g xs ys))) : OpOK P o a α s w (.one (.fn g xs ys)) s := by
  have hv : CR α (.fn g xs ys) (a.eval y) := evX_ok k hy
  have hv' := hv
  obtain ⟨us, vs, _, _, h3⟩ := hv'
  refine OpOK.pure (v := a.eval y) ?_ hv h
  simp [execOp, ho, h3]
def nilX : XV → Option XV
  | .one (.ptr (some p)) => some (.one (.ptr (some p)))
  | .one (.fn g xs ys) => some (.one (.fn g xs ys))
  | _ => none
def tupX (l : List (Bool × List XC)) (i : Nat) : Option XV :=
  match l[i]? with
  | some (true, c) => some (XV.agg c)
  | some (false, [c]) => some (XV.one c)
  | _ => none
/-- clear, of a slice -/
def clearX (P : Program) (s : XS) (t : TypeId) (x : XV) : Option (XV × XS) :=
  match P.underlying t with
  | some (.slice e) => match x with
    | .one (.slice p n _) => match p with
      | none => some (.tup [], s)
      | some (b, o) => bif Nat.beq n 0 then some (.tup [], s) else ob (zeroX P e) fun z => ob z.cells fun zs => bif Nat.beq zs.length 0 then none else ob (wrC s b o (repX n zs)) fun s' => some (.tup [], s')
    | _ => none
  | _ => none
theorem ok_clear {o : Oper} {a : Act} {α : XM} {s s' : XS} {w : World} {f : XF} (h : HR α s w) (k : FR1 α f a) {y : Operand} {t : TypeId} {tys : Array TypeId} (ho : o.op = .call ⟨.builtin .clear, #[y], tys⟩) (ht : tys[0]? = some t) {c x : XV} (hy : evX f y = some c) (hx : clearX P s t c = some (x, s')) : OpOK P o a α s w x s' := by
  have hv := evX_ok k hy
  have fin : ∀ w', (Builtin.clear_ tys o.type #[a.eval y]).run P w = .ok (.tuple #[]) w' → (execOp a.eval o).run P w = .ok (.value (.tuple #[])) w' := fun w' hr => by
    rw [run_builtin ho]
    simp [builtin, hr]
  unfold clearX at hx
  split at hx
  · rename_i e hu
    split at hx
    · rename_i p n cap
      split at hx
      · cases hx
        obtain ⟨_, _, hv⟩ := hv
        refine OpOK.pure (v := .tuple #[]) (fin w ?_) ⟨[], .nil, rfl⟩ h
        rw [hv]
        simp [Builtin.clear_, ht, run_underlying hu]
      · rename_i b off
        obtain ⟨l, cp, hl, _, hv⟩ := CR.slc hv
        cases hn : Nat.beq n 0 with
        | true =>
          rw [hn] at hx
          cases hx
          have := Nat.eq_of_beq_eq_true hn
          subst this
          refine OpOK.pure (v := .tuple #[]) (fin w ?_) ⟨[], .nil, rfl⟩ h
          rw [hv]
          simp [Builtin.clear_, ht, run_underlying hu]
        | false =>
          rw [hn] at hx
          simp only [cond_false] at hx
          obtain ⟨z, h1, hx⟩ := ob_some hx
          obtain ⟨zs, h2, hx⟩ := ob_some hx
          obtain ⟨h3, hx⟩ := bif_none hx
          obtain ⟨s2, h4, hx⟩ := ob_some hx
          cases hx
          obtain ⟨v, h5, h6⟩ := zeroX_ok (P := P) (α := α) h1 w
          obtain ⟨us, h7, h8⟩ := h6.cells h2
          have h7' : F2 (CR α) zs v.cells.toList := by rw [h8]; simpa using h7
          have hmade := made_ok h7' (Nat.ne_of_beq_eq_false h3) n
          have hsz : zs.length = v.cells.size := by simpa using h7'.length
          rw [hsz] at hmade
          have hz : (Builtin.zeroCells v.cells n).toList = ((Array.range (n * v.cells.size)).map (v.cells[· % v.cells.size]!)).toList := rfl
          generalize ((Array.range (n * v.cells.size)).map (v.cells[· % v.cells.size]!)).toList = L at hmade hz
          obtain ⟨k1, k2, k3⟩ := h.wr h4 hmade hl
          have hst := run_storeCells_cells (P := P) l.blk off _ 0 w (fun j hj => by simpa using (k1 j hj).1) (fun j hj => by simpa using (k1 j hj).2) hmade.ones
          simp only [Nat.add_zero] at hst
          refine ⟨α, .value (.tuple #[]), .tuple #[], _, fin _ ?_, .inl rfl, ⟨[], .nil, rfl⟩, k2, k3, wrC_k h4⟩
          rw [hv]
          obtain ⟨m, rfl⟩ : ∃ m, n = m + 1 := ⟨n - 1, by have := Nat.ne_of_beq_eq_false hn; omega⟩
          simp [Builtin.clear_, ht, run_underlying hu, h5, hz, hst]
    · cases hx
  · cases hx
def callB (P : Program) (s : XS) (f : XF) (b : Builtin) (args : List Operand) (tys : List TypeId) : Option (XV × XS) :=
  match b with
  | .len => match args with
    | [y] => match tys with
      | t :: _ => ob (evX f y) fun x => ob (lenX P s t x) fun n => some (.one (.int .i64 (Int.ofNat n)), s)
      | _ => none
    | _ => none
  | .append => match args with
    | [y, z] => match tys with
      | [t, tx] => match P.underlying tx with
        | some (.slice _) => ob (evX f y) fun c => ob (evX f z) fun d => appendX P s t c d
        | _ => none
      | _ => none
    | _ => none
  | .clear => match args with
    | [y] => match tys with
      | t :: _ => ob (evX f y) fun x => clearX P s t x
      | _ => none
    | _ => none
  | .max => match args with
    | [y, z] => ob (evX f y) fun c => ob (evX f z) fun d => match c with
      | .one (.int q m) => match d with
        | .one (.int _ n) => ob (maxX m n) fun x => some (.one (.int q x), s)
        | _ => none
      | _ => none
    | _ => none
  | .min => match args with
    | [y, z] => ob (evX f y) fun c => ob (evX f z) fun d => match c with
      | .one (.int q m) => match d with
        | .one (.int _ n) => ob (minX m n) fun x => some (.one (.int q x), s)
        | _ => none
      | _ => none
    | _ => none
  | _ => none
theorem callB_ok {o : Oper} {a : Act} {α : XM} {s s' : XS} {w : World} {f : XF} (h : HR α s w) (k : FR1 α f a) {b : Builtin} {args : Array Operand} {tys : Array TypeId} (ho : o.op = .call ⟨.builtin b, args, tys⟩) {x : XV} (hx : callB P s f b args.toList tys.toList = some (x, s')) : OpOK P o a α s w x s' := by
  obtain ⟨args⟩ := args
  obtain ⟨tys⟩ := tys
  unfold callB at hx
  simp only at hx
  split at hx
  · split at hx
    · split at hx
      · obtain ⟨c, h1, hx⟩ := ob_some hx
        obtain ⟨n, h2, hx⟩ := ob_some hx
        cases hx
        exact ok_len h k ho rfl h1 h2
      · cases hx
    · cases hx
  · split at hx
    · split at hx
      · split at hx
        · rename_i hu
          obtain ⟨c, h1, hx⟩ := ob_some hx
          obtain ⟨d, h2, hx⟩ := ob_some hx
          exact ok_append h k ho hu h1 h2 hx
        · cases hx
      · cases hx
    · cases hx
  · split at hx
    · split at hx
      · obtain ⟨c, h1, hx⟩ := ob_some hx
        exact ok_clear h k ho rfl h1 hx
      · cases hx
    · cases hx
  · split at hx
    · obtain ⟨c, h1, hx⟩ := ob_some hx
      obtain ⟨d, h2, hx⟩ := ob_some hx
      split at hx
      · split at hx
        · obtain ⟨n, h3, hx⟩ := ob_some hx
          cases hx
          exact ok_max h k ho h1 h2 h3
        · cases hx
      · cases hx
    · cases hx
  · split at hx
    · obtain ⟨c, h1, hx⟩ := ob_some hx
      obtain ⟨d, h2, hx⟩ := ob_some hx
      split at hx
      · split at hx
        · obtain ⟨n, h3, hx⟩ := ob_some hx
          cases hx
          exact ok_min h k ho h1 h2 h3
        · cases hx
      · cases hx
    · cases hx
  · cases hx
def strIx (P : Program) (t : TypeId) (x : XV) (i : Nat) : Option XV :=
  match P.underlying t with
  | some .string => match x with
    | .one (.str b) => ob b[i]? fun c => some (.one (.int .u8 (Int.ofNat c.toNat)))
    | _ => none
  | _ => none
/-- a slice of no elements -/
def emptyX (P : Program) (t : TypeId) (ps : List (Nat × Operand)) : Option (XO × XMk) :=
  match ps with
  | [] => match P.underlying t with
    | some (.slice e) => ob (sizeX P e) fun _ => some (.row [], .slc 0)
    | _ => none
  | _ => none
theorem ok_empty {o : Oper} {a : Act} {α : XM} {w : World} {t : TypeId} {n : Nat} {ps : Array (Nat × Operand)} (ho : o.op = .buildSlice t n ps) (hn : n = 0) {x : XO} {m : XMk} (hx : emptyX P t ps.toList = some (x, m)) : NewOK P o a α w x m := by
  subst hn
  obtain ⟨ps⟩ := ps
  unfold emptyX at hx
  split at hx
  · rename_i hps
    simp only at hps
    subst hps
    split at hx
    · rename_i e hu
      obtain ⟨z, h1, hx⟩ := ob_some hx
      cases hx
      refine NewOK.slc (vs := #[]) .nil (e := e) ?_
      have hz := sizeX_ok h1 w
      simp [execOp, ho, Instr.buildSlice, run_underlying hu, hz, Instr.fill, newRow]
      congr 2
      apply Array.ext'
      simp
    · cases hx
  · cases hx
/-- operations that only make a new object -/
def newOp (P : Program) (f : XF) (o : Oper) : Option (XO × XMk) :=
  match o.op with
  | .alloc e => ob (zeroX P e) fun z => ob z.cells fun c => some (.row c, .ptr)
  | .box _ y => ob (evX f y) fun z => ob z.cells fun c => some (.row c, .ptr)
  | .buildSlice t n ps => bif Nat.beq n 0 then emptyX P t ps.toList else ob (partsX f ps.toList) fun q => ob (buildSliceX P t n q) fun cs => some (.row cs, .slc n)
  | .makeMap _ r => match r with
    | none => some (.map [] 0, .map)
    | some _ => none
  | .makeSlice t y z => ob (evX f y) fun u => ob (evX f z) fun v => ob (idxX u) fun n => ob (idxX v) fun m => bif Nat.beq n m then ob (makeSliceX P t n) fun cs => some (.row cs, .slc n) else none
  | _ => none
theorem newOp_ok {o : Oper} {a : Act} {α : XM} {w : World} {f : XF} (k : FR1 α f a) {x : XO} {m : XMk} (hx : newOp P f o = some (x, m)) : NewOK P o a α w x m := by
  unfold newOp at hx
  split at hx
  · rename_i e ho
    obtain ⟨z, h1, hx⟩ := ob_some hx
    obtain ⟨c, h2, hx⟩ := ob_some hx
    cases hx
    exact ok_alloc ho h1 h2
  · rename_i e y ho
    obtain ⟨z, h1, hx⟩ := ob_some hx
    obtain ⟨c, h2, hx⟩ := ob_some hx
    cases hx
    exact ok_box k ho h1 h2
  · rename_i t n ps ho
    cases hn : Nat.beq n 0 with
    | true =>
      rw [hn] at hx
      exact ok_empty ho (Nat.eq_of_beq_eq_true hn) hx
    | false =>
      rw [hn] at hx
      simp only [cond_false] at hx
      obtain ⟨q, h1, hx⟩ := ob_some hx
      obtain ⟨c, h2, hx⟩ := ob_some hx
      cases hx
      exact ok_buildSlice k ho h1 h2
  · rename_i t r ho
    split at hx
    · cases hx
      exact ok_makeMap ho
    · cases hx
  · rename_i t y z ho
    obtain ⟨u, h1, hx⟩ := ob_some hx
    obtain ⟨v, h2, hx⟩ := ob_some hx
    obtain ⟨n, h3, hx⟩ := ob_some hx
    obtain ⟨m, h4, hx⟩ := ob_some hx
    obtain ⟨h5, hx⟩ := bif_some hx
    obtain ⟨c, h6, hx⟩ := ob_some hx
    cases hx
    have := Nat.eq_of_beq_eq_true h5
    subst this
    exact ok_makeSlice k ho h1 h2 h3 h4 h6
  · cases hx
def madeX (P : Program) (f : XF) (s : XS) (o : Oper) : Option (XV × XS) :=
  ob (newOp P f o) fun p => some (mkV p.2 s.next, ⟨XT.put (some p.1) s.next s.heap, s.next.succ, s.k⟩)
theorem madeX_ok {o : Oper} {a : Act} {α : XM} {s s' : XS} {w : World} {f : XF} (h : HR α s w) (k : FR1 α f a) {x : XV} (hx : madeX P f s o = some (x, s')) : OpOK P o a α s w x s' := by
  obtain ⟨⟨y, m⟩, h1, h2⟩ := ob_some hx
  cases h2
  exact (newOp_ok k h1).op h
def xMove (y : Operand) (f : XF) (s : XS) : Option (XV × XS) := ob (evX f y) fun x => some (x, s)
def xPick (c y z : Operand) (f : XF) (s : XS) : Option (XV × XS) := ob (evX f c) fun b => match b with
  | .one (.bool b) => ob (evX f (bif b then y else z)) fun x => some (x, s)
  | _ => none
def xMade (P : Program) (o : Oper) (f : XF) (s : XS) : Option (XV × XS) := madeX P f s o
def xBuild (P : Program) (t : TypeId) (ps : Array (Nat × Operand)) (f : XF) (s : XS) : Option (XV × XS) := ob (partsX f ps.toList) fun q => ob (buildX P t q) fun cs => some (.agg cs, s)
def xLoad (P : Program) (t : TypeId) (y : Operand) (f : XF) (s : XS) : Option (XV × XS) := ob (evX f y) fun q => match q with
  | .one (.ptr (some p)) => ob (loadX P s t p.1 p.2) fun x => some (x, s)
  | _ => none
def xStore (P : Program) (t : TypeId) (y z : Operand) (f : XF) (s : XS) : Option (XV × XS) := ob (evX f y) fun q => match q with
  | .one (.ptr (some p)) => ob (evX f z) fun x => ob x.cells fun c => ob (sizeX P t) fun n => bif Nat.beq n c.length then ob (wrC s p.1 p.2 c) fun s' => some (.tup [], s') else none
  | _ => none
def xNil (y : Operand) (f : XF) (s : XS) : Option (XV × XS) := ob (evX f y) fun q => ob (nilX q) fun x => some (x, s)
def xBin (P : Program) (b : BinOp) (t : TypeId) (y z : Operand) (_ : TypeId) (f : XF) (s : XS) : Option (XV × XS) := ob (evX f y) fun c => ob (evX f z) fun d => ob (binX P b t c d) fun x => some (x, s)
def xUn (u : UnOp) (_ : TypeId) (y : Operand) (f : XF) (s : XS) : Option (XV × XS) := ob (evX f y) fun c => ob (unX u c) fun x => some (x, s)
def xConv (P : Program) (t u : TypeId) (y : Operand) (f : XF) (s : XS) : Option (XV × XS) := ob (evX f y) fun c => ob (convX P t u c) fun x => some (x, s)
def xFn (g : Fn) (first cap : Array Operand) (f : XF) (s : XS) : Option (XV × XS) := match g with
  | .func g => ob (ptrsX f first.toList) fun xs => ob (ptrsX f cap.toList) fun ys => some (.one (.fn g xs ys), s)
  | _ => none
def xSlice (P : Program) (t : TypeId) (y : Operand) (lo hi mx : Option Operand) (f : XF) (s : XS) : Option (XV × XS) := match mx with
  | none => ob (evX f y) fun c => ob (bndX f lo) fun q => ob (bndX f hi) fun r => ob (sliceX P t c q r) fun x => some (x, s)
  | some _ => none
def xFA (P : Program) (t : TypeId) (y : Operand) (i : Nat) (f : XF) (s : XS) : Option (XV × XS) := ob (evX f y) fun q => match q with
  | .one (.ptr (some p)) => ob (fieldAddrX P t i p.1 p.2) fun x => some (x, s)
  | _ => none
def xField (P : Program) (t : TypeId) (y : Operand) (i : Nat) (f : XF) (s : XS) : Option (XV × XS) := ob (evX f y) fun q => match q with
  | .agg l => ob (fieldX P t i) fun fd => ob (partX P fd.type l fd.offset) fun x => some (x, s)
  | _ => none
def xIA (P : Program) (t : TypeId) (y z : Operand) (f : XF) (s : XS) : Option (XV × XS) := ob (evX f y) fun c => ob (evX f z) fun d => ob (idxX d) fun i => ob (indexAddrX P t c i) fun x => some (x, s)
def xIx (P : Program) (t : TypeId) (y z : Operand) (f : XF) (s : XS) : Option (XV × XS) := ob (evX f y) fun c => ob (evX f z) fun d => ob (idxX d) fun i => ob (strIx P t c i) fun x => some (x, s)
def xLk (P : Program) (t : TypeId) (y z : Operand) (ok : Bool) (f : XF) (s : XS) : Option (XV × XS) := ob (evX f y) fun m => ob (evX f z) fun ix => ob (lookupX P s t m ix ok) fun x => some (x, s)
def xUpd (P : Program) (t : TypeId) (y z u : Operand) (f : XF) (s : XS) : Option (XV × XS) := ob (evX f y) fun m => ob (evX f z) fun ix => ob (evX f u) fun x => ob (updX P s t m ix x) fun s' => some (.tup [], s')
def xEnt (P : Program) (t : TypeId) (y z : Operand) (f : XF) (s : XS) : Option (XV × XS) := ob (evX f y) fun m => ob (evX f z) fun ix => entryX P s t m ix
def xEntSt (_ : TypeId) (y z u : Operand) (f : XF) (s : XS) : Option (XV × XS) := ob (evX f y) fun m => ob (evX f z) fun st => ob (evX f u) fun x => ob (entStX s m st x) fun s' => some (.tup [], s')
def xRange (P : Program) (t : TypeId) (y : Operand) (f : XF) (s : XS) : Option (XV × XS) := ob (evX f y) fun m => ob (rangeX P s t m) fun it => some (.one (.ptr (some (s.next, 0))), ⟨XT.put (some it) s.next s.heap, s.next.succ, s.k⟩)
def xEntry (y : Operand) (f : XF) (s : XS) : Option (XV × XS) := ob (evX f y) fun q => match q with
  | .one (.ptr (some (b, 0))) => ob (entOX s b) fun x => some (x, s)
  | _ => none
def xExtr (y : Operand) (i : Nat) (f : XF) (s : XS) : Option (XV × XS) := ob (evX f y) fun q => match q with
  | .tup l => ob (tupX l i) fun x => some (x, s)
  | _ => none
def xCall (P : Program) (c : Call) (f : XF) (s : XS) : Option (XV × XS) := match c.callee with
  | .builtin b => callB P s f b c.args.toList c.argTypes.toList
  | _ => none
def xNo (_ : XF) (_ : XS) : Option (XV × XS) := none
def opXS (P : Program) (f : XF) (s : XS) (o : Oper) : Option (XV × XS) :=
  match o.op with
  | .move y => xMove y f s
  | .assign y => xMove y f s
  | .pick c y z => xPick c y z f s
  | .alloc _ => xMade P o f s
  | .box _ _ => xMade P o f s
  | .build t ps => xBuild P t ps f s
  | .buildSlice _ _ _ => xMade P o f s
  | .load t y => xLoad P t y f s
  | .store t y z => xStore P t y z f s
  | .nilCheck y => xNil y f s
  | .binOp b t y z q => xBin P b t y z q f s
  | .unOp u t y => xUn u t y f s
  | .convert t u y => xConv P t u y f s
  | .makeFunc g first cap => xFn g first cap f s
  | .makeMap _ _ => xMade P o f s
  | .makeSlice _ _ _ => xMade P o f s
  | .slice t y lo hi mx => xSlice P t y lo hi mx f s
  | .fieldAddr t y i => xFA P t y i f s
  | .field t y i => xField P t y i f s
  | .indexAddr t y z => xIA P t y z f s
  | .index t y z => xIx P t y z f s
  | .lookup t y z ok => xLk P t y z ok f s
  | .mapUpdate t y z u => xUpd P t y z u f s
  | .insert t y z u => xUpd P t y z u f s
  | .mapEntry t y z => xEnt P t y z f s
  | .entryStore t y z u => xEntSt t y z u f s
  | .range t y => xRange P t y f s
  | .entry y => xEntry y f s
  | .extract y i => xExtr y i f s
  | .call c => xCall P c f s
  | _ => none
/-- an operation that is no call of a function, no step of a walk over a map, no deferring -/
def opK (P : Program) (o : Oper) : XF → XS → Option (XV × XS) :=
  Op.rec (motive := fun _ => XF → XS → Option (XV × XS)) xMove xMove xPick (fun _ => xMade P o) (fun _ _ => xMade P o) (xBuild P) (fun _ _ _ => xMade P o) (xUpd P) (xLoad P) (xStore P) (fun _ => xNo) (fun _ => xNo) xNil (xBin P) xUn (xConv P)
    (fun _ _ => xNo) (fun _ _ => xNo) xFn (fun _ _ => xMade P o) (fun _ _ => xNo) (fun _ _ _ => xMade P o) (xSlice P) (xFA P) (xField P) (xIA P) (xIx P) (xLk P) (xUpd P) (xEnt P) xEntSt (xRange P) (fun _ _ => xNo) xEntry (fun _ _ _ _ => xNo) xExtr (xCall P)
    (fun _ => xNo) (fun _ => xNo) (fun _ => xNo) (fun _ _ => xNo) (fun _ _ _ => xNo) (fun _ _ => xNo) o.op
def opX (P : Program) (f : XF) (s : XS) (o : Oper) : Option (XV × XS) := opK P o f s
theorem opX_eq (f : XF) (s : XS) (o : Oper) : opX P f s o = opXS P f s o := by
  obtain ⟨d, op, ty, ps, af, g⟩ := o
  cases op <;> rfl
theorem opX_ok {o : Oper} {a : Act} {α : XM} {s s' : XS} {w : World} {f : XF} (h : HR α s w) (k : FR1 α f a) {x : XV} (hx : opX P f s o = some (x, s')) : OpOK P o a α s w x s' := by
  rw [opX_eq] at hx
  unfold opXS at hx
  split at hx
  · rename_i y ho
    obtain ⟨x, h1, hx⟩ := ob_some hx
    cases hx
    exact ok_move h k (.inl ho) h1
  · rename_i y ho
    obtain ⟨x, h1, hx⟩ := ob_some hx
    cases hx
    exact ok_move h k (.inr ho) h1
  · rename_i c y z ho
    obtain ⟨b, h1, hx⟩ := ob_some hx
    split at hx
    · rename_i b'
      obtain ⟨x, h2, hx⟩ := ob_some hx
      cases hx
      exact ok_pick h k ho h1 (by cases b' <;> exact h2)
    · cases hx
  · exact madeX_ok h k hx
  · exact madeX_ok h k hx
  · rename_i t ps ho
    obtain ⟨q, h1, hx⟩ := ob_some hx
    obtain ⟨c, h2, hx⟩ := ob_some hx
    cases hx
    exact ok_build h k ho h1 h2
  · exact madeX_ok h k hx
  · rename_i t y ho
    obtain ⟨q, h1, hx⟩ := ob_some hx
    split at hx
    · obtain ⟨x, h2, hx⟩ := ob_some hx
      cases hx
      exact ok_load h k ho h1 h2
    · cases hx
  · rename_i t y z ho
    obtain ⟨q, h1, hx⟩ := ob_some hx
    split at hx
    · obtain ⟨x, h2, hx⟩ := ob_some hx
      obtain ⟨c, h3, hx⟩ := ob_some hx
      obtain ⟨n, h4, hx⟩ := ob_some hx
      obtain ⟨h5, hx⟩ := bif_some hx
      obtain ⟨s2, h6, hx⟩ := ob_some hx
      cases hx
      have := Nat.eq_of_beq_eq_true h5
      subst this
      exact ok_store h k ho h1 h2 h3 h4 h6
    · cases hx
  · rename_i y ho
    obtain ⟨q, h1, hx⟩ := ob_some hx
    obtain ⟨x, h2, hx⟩ := ob_some hx
    cases hx
    unfold nilX at h2
    split at h2
    · cases h2
      exact ok_nilCheck h k ho h1
    · cases h2
      exact ok_nilFn h k ho h1
    · cases h2
  · rename_i b t y z t2 ho
    obtain ⟨c, h1, hx⟩ := ob_some hx
    obtain ⟨d, h2, hx⟩ := ob_some hx
    obtain ⟨x, h3, hx⟩ := ob_some hx
    cases hx
    exact ok_bin h k ho h1 h2 h3
  · rename_i u t y ho
    obtain ⟨c, h1, hx⟩ := ob_some hx
    obtain ⟨x, h3, hx⟩ := ob_some hx
    cases hx
    exact ok_un h k ho h1 h3
  · rename_i t u y ho
    obtain ⟨c, h1, hx⟩ := ob_some hx
    obtain ⟨x, h3, hx⟩ := ob_some hx
    cases hx
    exact ok_conv h k ho h1 h3
  · rename_i g first cap ho
    unfold xFn at hx
    split at hx
    · obtain ⟨xs, h1, hx⟩ := ob_some hx
      obtain ⟨ys, h3, hx⟩ := ob_some hx
      cases hx
      exact ok_makeFunc h k ho h1 h3
    · cases hx
  · exact madeX_ok h k hx
  · exact madeX_ok h k hx
  · rename_i t y lo hi mx ho
    unfold xSlice at hx
    split at hx
    · obtain ⟨c, h1, hx⟩ := ob_some hx
      obtain ⟨q, h2, hx⟩ := ob_some hx
      obtain ⟨r, h3, hx⟩ := ob_some hx
      obtain ⟨x, h4, hx⟩ := ob_some hx
      cases hx
      exact ok_slice h k ho h1 h2 h3 h4
    · cases hx
  · rename_i t y i ho
    obtain ⟨q, h1, hx⟩ := ob_some hx
    split at hx
    · obtain ⟨x, h4, hx⟩ := ob_some hx
      cases hx
      exact ok_fieldAddr h k ho h1 h4
    · cases hx
  · rename_i t y i ho
    obtain ⟨q, h1, hx⟩ := ob_some hx
    split at hx
    · obtain ⟨fd, h2, hx⟩ := ob_some hx
      obtain ⟨x, h4, hx⟩ := ob_some hx
      cases hx
      exact ok_field h k ho h1 h2 h4
    · cases hx
  · rename_i t y z ho
    obtain ⟨c, h1, hx⟩ := ob_some hx
    obtain ⟨d, h2, hx⟩ := ob_some hx
    obtain ⟨i, h3, hx⟩ := ob_some hx
    obtain ⟨x, h4, hx⟩ := ob_some hx
    cases hx
    exact ok_indexAddr h k ho h1 h2 h3 h4
  · rename_i t y z ho
    obtain ⟨c, h1, hx⟩ := ob_some hx
    obtain ⟨d, h2, hx⟩ := ob_some hx
    obtain ⟨i, h3, hx⟩ := ob_some hx
    obtain ⟨x, h4, hx⟩ := ob_some hx
    cases hx
    unfold strIx at h4
    split at h4
    · rename_i hu
      split at h4
      · obtain ⟨u, h5, h6⟩ := ob_some h4
        cases h6
        exact ok_index h k ho hu h1 h2 h3 h5
      · cases h4
    · cases h4
  · rename_i t y z ok ho
    obtain ⟨c, h1, hx⟩ := ob_some hx
    obtain ⟨d, h2, hx⟩ := ob_some hx
    obtain ⟨x, h4, hx⟩ := ob_some hx
    cases hx
    exact ok_lookup h k ho h1 h2 h4
  · rename_i t y z u ho
    obtain ⟨c, h1, hx⟩ := ob_some hx
    obtain ⟨d, h2, hx⟩ := ob_some hx
    obtain ⟨x, h3, hx⟩ := ob_some hx
    obtain ⟨s2, h4, hx⟩ := ob_some hx
    cases hx
    exact ok_update h k (.inl ho) h1 h2 h3 h4
  · rename_i t y z u ho
    obtain ⟨c, h1, hx⟩ := ob_some hx
    obtain ⟨d, h2, hx⟩ := ob_some hx
    obtain ⟨x, h3, hx⟩ := ob_some hx
    obtain ⟨s2, h4, hx⟩ := ob_some hx
    cases hx
    exact ok_update h k (.inr ho) h1 h2 h3 h4
  · rename_i t y z ho
    obtain ⟨c, h1, hx⟩ := ob_some hx
    obtain ⟨d, h2, hx⟩ := ob_some hx
    exact ok_entry h k ho h1 h2 hx
  · rename_i t y z u ho
    obtain ⟨c, h1, hx⟩ := ob_some hx
    obtain ⟨d, h2, hx⟩ := ob_some hx
    obtain ⟨x, h3, hx⟩ := ob_some hx
    obtain ⟨s2, h4, hx⟩ := ob_some hx
    cases hx
    exact ok_entryStore h k ho h1 h2 h3 h4
  · rename_i t y ho
    obtain ⟨c, h1, hx⟩ := ob_some hx
    obtain ⟨it, h2, hx⟩ := ob_some hx
    cases hx
    exact ok_range h k ho h1 h2
  · rename_i y ho
    obtain ⟨c, h1, hx⟩ := ob_some hx
    split at hx
    · obtain ⟨x, h2, hx⟩ := ob_some hx
      cases hx
      exact ok_entryOf h k ho h1 h2
    · cases hx
  · rename_i y i ho
    obtain ⟨c, h1, hx⟩ := ob_some hx
    split at hx
    · obtain ⟨x, h2, hx⟩ := ob_some hx
      cases hx
      exact ok_extract h k ho h1 h2
    · cases hx
  · rename_i c ho
    obtain ⟨callee, args, tys⟩ := c
    unfold xCall at hx
    split at hx
    · rename_i b hb
      simp only at hb hx
      subst hb
      exact callB_ok h k ho hx
    · cases hx
  · cases hx
end
end Go.Proofs.YtbddollbjajcnaaGreat
