/- The evaluator: frames, operands, operations without calls (1). -/
import Derived.Test.YtbddollbjajcnaaGreatX3
namespace Go.Proofs.YtbddollbjajcnaaGreat
open Go
noncomputable section
set_option linter.unusedVariables false
set_option linter.unusedSimpArgs false
/-- a frame: the slots' values, and how many slots there are -/
structure XF where
  tm : XT XV
  n : Nat
def XF.putS (f : XF) (d : Option Tmp) (v : XV) : Option XF :=
  match d with
  | none => some f
  | some d => bif Nat.blt d f.n then some ⟨XT.put (some v) (XP.key d) f.tm, f.n⟩ else none
def XF.put (f : XF) (d : Option Tmp) (v : XV) : Option XF :=
  Option.rec (motive := fun _ => Option XF) (some f) (fun d => XF.rec (motive := fun _ => Option XF) (fun tm n => Bool.rec (motive := fun _ => Option XF) none (some ⟨XT.put (some v) (XP.key d) tm, n⟩) (Nat.blt d n)) f) d
theorem XF.put_eq (f : XF) (d : Option Tmp) (v : XV) : f.put d v = f.putS d v := by
  unfold XF.put XF.putS
  cases d with
  | none => rfl
  | some d =>
    obtain ⟨tm, n⟩ := f
    simp only
    cases Nat.blt d n <;> rfl
structure FR1 (α : XM) (f : XF) (a : Act) : Prop where
  size : a.tmps.size = f.n
  small : f.n ≤ 1000000
  val : ∀ t v, t < f.n → XT.get (XP.key t) f.tm = some v → VR α v (a.tmps.getD t undef)
theorem FR1.mono {α β : XM} (h : α.le β) {f : XF} {a : Act} (k : FR1 α f a) : FR1 β f a := ⟨k.size, k.small, fun t v ht hv => (k.val t v ht hv).mono h⟩
theorem blt_lt {a b : Nat} (h : Nat.blt a b = true) : a < b := Nat.le_of_ble_eq_true h
theorem FR1.put {α : XM} {f g : XF} {a : Act} (k : FR1 α f a) {d : Option Tmp} {x : XV} {v : Value} (hx : VR α x v) (hp : f.put d x = some g) : FR1 α g (a.put d v) := by
  rw [XF.put_eq] at hp
  unfold XF.putS at hp
  cases d with
  | none => cases hp; exact k
  | some d =>
    simp only at hp
    cases hb : Nat.blt d f.n with
    | false => simp only [hb, cond_false] at hp; cases hp
    | true =>
      simp only [hb, cond_true] at hp
      cases hp
      have hd := blt_lt hb
      refine ⟨by simp [Act.put, k.size], k.small, fun t y ht hy => ?_⟩
      simp only at ht hy
      show VR α y ((a.tmps.setIfInBounds d v).getD t undef)
      by_cases e : d = t
      · subst e
        rw [XT.get_put] at hy
        cases hy
        rw [Array.getD_eq_getD_getElem?, Array.getElem?_setIfInBounds_self_of_lt (by rw [k.size]; exact hd)]
        exact hx
      · rw [XT.get_put_ne _ _ _ _ (fun h => e (XP.key_inj (by have := k.small; omega) (by have := k.small; omega) h))] at hy
        rw [Array.getD_eq_getD_getElem?, Array.getElem?_setIfInBounds_ne e, ← Array.getD_eq_getD_getElem?]
        exact k.val t y ht hy
/-- constants -/
def cellX : Value → Option XC
  | .bool b => some (.bool b)
  | .int k n => some (.int k n)
  | .string s => some (.str s)
  | .pointer none => some (.ptr none)
  | .slice none 0 0 => some (.slice none 0 (.is 0))
  | .map none => some (.map none)
  | .nilFunc => some .nilFn
  | .nilIface => some .nilI
  | _ => none
def cellsX : List Value → Option (List XC)
  | [] => some []
  | v :: l => match cellX v with
    | some c => match cellsX l with
      | some m => some (c :: m)
      | none => none
    | none => none
def constX (v : Value) : Option XV :=
  match v with
  | .agg cs => match cellsX cs.toList with
    | some l => some (.agg l)
    | none => none
  | v => match cellX v with
    | some c => some (.one c)
    | none => none
theorem cellX_ok {α : XM} {v : Value} {c : XC} (h : cellX v = some c) : CR α c v := by
  unfold cellX at h
  split at h <;> first | (cases h; rfl) | (cases h; exact ⟨rfl, rfl, rfl⟩) | cases h
theorem cellsX_ok {α : XM} : ∀ {l : List Value} {m : List XC}, cellsX l = some m → F2 (CR α) m l
  | [], m, h => by cases h; exact .nil
  | v :: l, m, h => by
    unfold cellsX at h
    cases hc : cellX v with
    | none => simp [hc] at h
    | some c =>
      cases hl : cellsX l with
      | none => simp [hc, hl] at h
      | some n =>
        simp only [hc, hl] at h
        cases h
        exact .cons (cellX_ok hc) (cellsX_ok hl)
theorem constX_ok {α : XM} {v : Value} {x : XV} (h : constX v = some x) : VR α x v := by
  unfold constX at h
  split at h
  · rename_i cs
    cases hl : cellsX cs.toList with
    | none => simp [hl] at h
    | some l =>
      simp only [hl] at h
      cases h
      exact ⟨cs.toList, cellsX_ok hl, by simp⟩
  · split at h
    · rename_i c hc
      cases h
      exact cellX_ok hc
    · cases h
def evX (f : XF) : Operand → Option XV
  | .tmp t => bif Nat.blt t f.n then XT.get (XP.key t) f.tm else none
  | .const v => constX v
  | .global _ => none
  | .func g => some (.one (.fn g [] []))
theorem evX_ok {α : XM} {f : XF} {a : Act} (k : FR1 α f a) {o : Operand} {x : XV} (h : evX f o = some x) : VR α x (a.eval o) := by
  cases o with
  | tmp t =>
    unfold evX at h
    cases hb : Nat.blt t f.n with
    | false => simp only [hb, cond_false] at h; cases h
    | true =>
      simp only [hb, cond_true] at h
      exact k.val t x (blt_lt hb) h
  | const v => exact constX_ok h
  | global g => cases h
  | func g =>
    cases h
    exact ⟨[], [], .nil, .nil, rfl⟩
variable {P : Program}
/-- what an operation does -/
def OpOK (P : Program) (o : Oper) (a : Act) (α : XM) (s : XS) (w : World) (x : XV) (t : XS) : Prop :=
  ∃ β nx v w', (execOp a.eval o).run P w = .ok nx w' ∧ (nx = .value v ∨ (nx = .skip ∧ v = undef)) ∧ VR β x v ∧ HR β t w' ∧ GR α s w β t w' ∧ t.k = s.k
theorem OpOK.pure {o : Oper} {a : Act} {α : XM} {s : XS} {w : World} {x : XV} {v : Value} (hr : (execOp a.eval o).run P w = .ok (.value v) w) (hx : VR α x v) (h : HR α s w) : OpOK P o a α s w x s :=
  ⟨α, _, v, w, hr, .inl rfl, hx, h, GR.refl _ _ _, rfl⟩
def isAggX (P : Program) (t : TypeId) : Option Bool :=
  match P.underlying t with
  | some (.struct _) => some true
  | some (.array _ _) => some true
  | some _ => some false
  | none => none
def sizeX (P : Program) (t : TypeId) : Option Nat :=
  match P.info? t with
  | some i => some i.size
  | none => none
def zeroX (P : Program) (t : TypeId) : Option XV :=
  match P.info? t with
  | some i => match i.zero with
    | some z => constX z
    | none => none
  | none => none
inductive XMk where
  | ptr
  | slc (n : Nat)
  | map
def mkV (m : XMk) (n : XP) : XV :=
  match m with
  | .ptr => .one (.ptr (some (n, 0)))
  | .slc k => .one (.slice (some (n, 0)) k (.is k))
  | .map => .one (.map (some n))
/-- an operation that only makes a new object -/
def NewOK (P : Program) (o : Oper) (a : Act) (α : XM) (w : World) (x : XO) (m : XMk) : Prop :=
  ∃ v obj room, (execOp a.eval o).run P w = .ok (.value v) (w.alloc obj) ∧ OR α (w.alloc obj) ⟨w.heap.size, room⟩ x ∧ ∀ (β : XM) (n : XP), β n = some ⟨w.heap.size, room⟩ → VR β (mkV m n) v
theorem NewOK.op {o : Oper} {a : Act} {α : XM} {s : XS} {w : World} (h : HR α s w) {x : XO} {m : XMk} (k : NewOK P o a α w x m) : OpOK P o a α s w (mkV m s.next) ⟨XT.put (some x) s.next s.heap, s.next.succ, s.k⟩ := by
  obtain ⟨v, obj, room, h1, h2, h3⟩ := k
  obtain ⟨k1, k2⟩ := h.new x obj room h2
  exact ⟨_, .value v, v, _, h1, .inl rfl, h3 _ _ (XM.put_self _ _ _), k1, k2, rfl⟩
theorem row_new {α : XM} {w : World} {c : List XC} {vs : Array Value} (hc : F2 (CR α) c vs.toList) (e : TypeId) : OR α (w.alloc (.cells vs e)) ⟨w.heap.size, c.length⟩ (.row c) :=
  ⟨vs, e, by show (w.heap.push _)[w.heap.size]? = _; simp, Nat.le_refl _, by simpa using Nat.le_of_eq hc.length, fun i x hx => by obtain ⟨v, h1, h2⟩ := hc.get i x hx; exact ⟨v, by simpa using h1, h2⟩⟩
theorem NewOK.ptr {o : Oper} {a : Act} {α : XM} {w : World} {c : List XC} {vs : Array Value} (hc : F2 (CR α) c vs.toList) {e : TypeId} (hr : (execOp a.eval o).run P w = .ok (.value (.pointer (some ⟨w.heap.size, 0, none⟩))) (w.alloc (.cells vs e))) : NewOK P o a α w (.row c) .ptr :=
  ⟨_, _, _, hr, row_new hc e, fun β n hn => ⟨_, hn, rfl⟩⟩
theorem NewOK.slc {o : Oper} {a : Act} {α : XM} {w : World} {c : List XC} {vs : Array Value} (hc : F2 (CR α) c vs.toList) {e : TypeId} {n : Nat} (hr : (execOp a.eval o).run P w = .ok (.value (.slice (some ⟨w.heap.size, 0, none⟩) n n)) (w.alloc (.cells vs e))) : NewOK P o a α w (.row c) (.slc n) :=
  ⟨_, _, _, hr, row_new hc e, fun β n hn => ⟨Nat.le_refl _, _, hn, rfl⟩⟩
theorem ok_alloc {o : Oper} {a : Act} {α : XM} {w : World} {e : TypeId} (ho : o.op = .alloc e) {z : XV} {c : List XC} (hz : zeroX P e = some z) (hc : z.cells = some c) : NewOK P o a α w (.row c) .ptr := by
  unfold zeroX at hz
  cases hi : P.info? e with
  | none => simp [hi] at hz
  | some i =>
    cases hzz : i.zero with
    | none => simp [hi, hzz] at hz
    | some v =>
      simp only [hi, hzz] at hz
      obtain ⟨vs, h1, h2⟩ := (constX_ok (α := α) hz).cells hc
      refine NewOK.ptr (vs := vs.toArray) (by simpa using h1) (e := e) ?_
      simp [execOp, ho, Instr.alloc, zeroValue, typeInfo, hi, hzz, newVar, newRow, h2]
theorem ok_box {o : Oper} {a : Act} {α : XM} {w : World} {f : XF} (k : FR1 α f a) {e : TypeId} {y : Operand} (ho : o.op = .box e y) {z : XV} {c : List XC} (hz : evX f y = some z) (hc : z.cells = some c) : NewOK P o a α w (.row c) .ptr := by
  obtain ⟨vs, h1, h2⟩ := (evX_ok k hz).cells hc
  refine NewOK.ptr (vs := vs.toArray) (by simpa using h1) (e := e) ?_
  simp [execOp, ho, Instr.box, newVar, newRow, h2]
theorem ok_move {o : Oper} {a : Act} {α : XM} {s : XS} {w : World} {f : XF} (h : HR α s w) (k : FR1 α f a) {y : Operand} (ho : o.op = .move y ∨ o.op = .assign y) {x : XV} (hx : evX f y = some x) : OpOK P o a α s w x s := by
  refine OpOK.pure ?_ (evX_ok k hx) h
  rcases ho with ho | ho <;> simp [execOp, ho]
theorem ok_pick {o : Oper} {a : Act} {α : XM} {s : XS} {w : World} {f : XF} (h : HR α s w) (k : FR1 α f a) {c y z : Operand} (ho : o.op = .pick c y z) {b : Bool} (hc : evX f c = some (.one (.bool b))) {x : XV} (hx : evX f (if b then y else z) = some x) : OpOK P o a α s w x s := by
  have h1 : a.eval c = .bool b := evX_ok k hc
  refine OpOK.pure ?_ (evX_ok k hx) h
  simp only [execOp, ho, h1]
  cases b <;> simp [asBool]
def loadX (P : Program) (s : XS) (t : TypeId) (b : XP) (o : Nat) : Option XV :=
  match isAggX P t with
  | some true => match sizeX P t with
    | some n => match rdC s b o n with
      | some l => some (.agg l)
      | none => none
    | none => none
  | some false => match rdC s b o 1 with
    | some [c] => some (.one c)
    | _ => none
  | none => none
theorem loadX_ok {α : XM} {s : XS} {w : World} (h : HR α s w) {t : TypeId} {b : XP} {o : Nat} {x : XV} (hx : loadX P s t b o = some x) {l : XL} (hl : α b = some l) : ∃ v, (loadVar t ⟨l.blk, o, none⟩).run P w = .ok v w ∧ VR α x v := by
  unfold loadX at hx
  split at hx
  · rename_i hag
    cases hs : sizeX P t with
    | none => simp [hs] at hx
    | some n =>
      cases hr : rdC s b o n with
      | none => simp [hs, hr] at hx
      | some cs =>
        simp only [hs, hr] at hx
        cases hx
        obtain ⟨vs, h1, h2⟩ := h.read hr hl
        obtain ⟨_, _, _, h3⟩ := rdC_spec hr
        unfold isAggX at hag
        unfold sizeX at hs
        cases hi : P.info? t with
        | none => simp [hi] at hs
        | some i =>
          simp only [hi] at hs
          cases hs
          have hlen : vs.length = i.size := by rw [← h1.length, h3]
          cases hu : P.underlying t with
          | none => simp [hu] at hag
          | some d =>
            refine ⟨.agg vs.toArray, run_loadVar_mid w l.blk o t vs d h2 hu ?_ (by rw [hi, hlen]; rfl), vs, h1, rfl⟩
            rw [hu] at hag
            cases d <;> first | rfl | (simp at hag)
  · rename_i hag
    split at hx
    · rename_i c hr
      cases hx
      obtain ⟨vs, h1, h2⟩ := h.read hr hl
      cases h1 with
      | cons h3 h4 =>
        cases h4
        rename_i v
        refine ⟨v, ?_, h3⟩
        have hc := h2 0 v rfl
        rw [Nat.add_zero] at hc
        unfold isAggX at hag
        cases hu : P.underlying t with
        | none => simp [hu] at hag
        | some d =>
          rw [hu] at hag
          cases d <;> first | (simp at hag; done) | (simp [loadVar, isAgg, run_underlying hu, load, Sem.run, hc])
    · cases hx
  · cases hx
theorem ok_load {o : Oper} {a : Act} {α : XM} {s : XS} {w : World} {f : XF} (h : HR α s w) (k : FR1 α f a) {t : TypeId} {y : Operand} (ho : o.op = .load t y) {b : XP} {i : Nat} (hy : evX f y = some (.one (.ptr (some (b, i))))) {x : XV} (hx : loadX P s t b i = some x) : OpOK P o a α s w x s := by
  obtain ⟨l, h1, h2⟩ := evX_ok k hy
  obtain ⟨v, h3, h4⟩ := loadX_ok h hx h1
  refine OpOK.pure (v := v) ?_ h4 h
  simp [execOp, ho, h2, Instr.loadAt, Instr.sureAddr, h3]
theorem ok_store {o : Oper} {a : Act} {α : XM} {s s' : XS} {w : World} {f : XF} (h : HR α s w) (k : FR1 α f a) {t : TypeId} {y z : Operand} (ho : o.op = .store t y z) {b : XP} {i : Nat} (hy : evX f y = some (.one (.ptr (some (b, i))))) {x : XV} (hz : evX f z = some x) {c : List XC} (hc : x.cells = some c) (hn : sizeX P t = some c.length) (hw : wrC s b i c = some s') : OpOK P o a α s w (.tup []) s' := by
  obtain ⟨l, h1, h2⟩ := evX_ok k hy
  obtain ⟨vs, h3, h4⟩ := (evX_ok k hz).cells hc
  obtain ⟨h5, h6, h7⟩ := h.wr hw h3 h1
  refine ⟨α, .skip, undef, w.setCells l.blk i vs, ?_, .inr ⟨rfl, rfl⟩, ⟨[], .nil, rfl⟩, h6, h7, wrC_k hw⟩
  unfold sizeX at hn
  cases hi : P.info? t with
  | none => simp [hi] at hn
  | some ti =>
    simp only [hi] at hn
    have hn := Option.some.inj hn
    have hst := run_storeCells_cells (P := P) l.blk i vs 0 w (fun j hj => by simpa using (h5 j hj).1) (fun j hj => by simpa using (h5 j hj).2) h3.ones
    have hv : vs.length = ti.size := by rw [hn, h3.length]
    simp only [Nat.add_zero] at hst
    simp [execOp, ho, h2, Instr.storeAt, Instr.sureAddr, storeVar, sizeOf, typeInfo, hi, h4, hv, hst]
end
end Go.Proofs.YtbddollbjajcnaaGreat
