/- The evaluator: operations without calls (2): tests, arithmetic, addresses, parts. -/
import Derived.Test.YtbddollbjajcnaaGreatX4
namespace Go.Proofs.YtbddollbjajcnaaGreat
open Go
noncomputable section
set_option linter.unusedVariables false
set_option linter.unusedSimpArgs false
variable {P : Program}
/-- the value of a computation that looks at nothing -/
def pureX : Sem Value → Option XV
  | .pure v => constX v
  | _ => none
theorem pureX_ok {α : XM} {m : Sem Value} {x : XV} (h : pureX m = some x) (w : World) : ∃ v, m.run P w = .ok v w ∧ VR α x v := by
  cases m with
  | pure v => exact ⟨v, rfl, constX_ok h⟩
  | _ => cases h
/-- a cell that is a number or a text, as a value -/
def litX : XC → Option Value
  | .bool b => some (.bool b)
  | .int k n => some (.int k n)
  | .str s => some (.string s)
  | _ => none
theorem litX_ok {α : XM} {c : XC} {u v : Value} (h : litX c = some u) (k : CR α c v) : v = u := by
  cases c <;> first | (cases h; exact k) | cases h
def isNum : Value → Bool
  | .int _ _ => true
  | .string _ => true
  | _ => false
def binNum (b : BinOp) (t : TypeId) (u v : Value) : Option XV :=
  match u, v with
  | .int k m, .int j n => pureX (binOp b t (.int k m) (.int j n))
  | .string m, .string n => pureX (binOp b t (.string m) (.string n))
  | _, _ => none
theorem ok_binNum {o : Oper} {a : Act} {α : XM} {s : XS} {w : World} {f : XF} (h : HR α s w) (k : FR1 α f a) {b : BinOp} {t t2 : TypeId} {y z : Operand} (ho : o.op = .binOp b t y z t2) {c d : XC} (hy : evX f y = some (.one c)) (hz : evX f z = some (.one d))
    {u v : Value} (hu : litX c = some u) (hv : litX d = some v) {x : XV} (hx : binNum b t u v = some x) : OpOK P o a α s w x s := by
  have h1 : a.eval y = u := litX_ok hu (evX_ok k hy)
  have h2 : a.eval z = v := litX_ok hv (evX_ok k hz)
  have key : ∃ r, (do eqGuard b t y z u v; binOp b t u v : Sem Value).run P w = .ok r w ∧ VR α x r := by
    unfold binNum at hx
    split at hx
    · obtain ⟨r, h3, h4⟩ := pureX_ok (P := P) (α := α) hx w
      rename_i k1 n1 k2 n2
      refine ⟨r, ?_, h4⟩
      have : (eqGuard b t y z (.int k1 n1) (.int k2 n2)).run P w = .ok () w := by unfold eqGuard; cases b <;> simp
      simp only [Sem.run_bind, this, Result.andThen_ok, h3]
    · obtain ⟨r, h3, h4⟩ := pureX_ok (P := P) (α := α) hx w
      rename_i s1 s2
      refine ⟨r, ?_, h4⟩
      have : (eqGuard b t y z (.string s1) (.string s2)).run P w = .ok () w := by unfold eqGuard; cases b <;> simp
      simp only [Sem.run_bind, this, Result.andThen_ok, h3]
    · cases hx
  obtain ⟨r, h3, h4⟩ := key
  refine OpOK.pure (v := r) ?_ h4 h
  simp only [Sem.run_bind] at h3
  simp only [execOp, ho, h1, h2, Sem.run_bind, h3]
  rfl
def unX (u : UnOp) : XV → Option XV
  | .one (.bool b) => pureX (Op.unary u (.bool b))
  | .one (.int k n) => pureX (Op.unary u (.int k n))
  | _ => none
theorem ok_un {o : Oper} {a : Act} {α : XM} {s : XS} {w : World} {f : XF} (h : HR α s w) (k : FR1 α f a) {u : UnOp} {t : TypeId} {y : Operand} (ho : o.op = .unOp u t y) {c x : XV} (hy : evX f y = some c) (hx : unX u c = some x) : OpOK P o a α s w x s := by
  have hv := evX_ok k hy
  unfold unX at hx
  split at hx
  · obtain ⟨r, h3, h4⟩ := pureX_ok (P := P) (α := α) hx w
    refine OpOK.pure (v := r) ?_ h4 h
    have hv : a.eval y = _ := hv
    simp [execOp, ho, hv, h3]
  · obtain ⟨r, h3, h4⟩ := pureX_ok (P := P) (α := α) hx w
    refine OpOK.pure (v := r) ?_ h4 h
    have hv : a.eval y = _ := hv
    simp [execOp, ho, hv, h3]
  · cases hx
theorem ok_nilCheck {o : Oper} {a : Act} {α : XM} {s : XS} {w : World} {f : XF} (h : HR α s w) (k : FR1 α f a) {y : Operand} (ho : o.op = .nilCheck y) {p : XA} (hy : evX f y = some (.one (.ptr (some p)))) : OpOK P o a α s w (.one (.ptr (some p))) s := by
  have hv := evX_ok k hy
  obtain ⟨b, i⟩ := p
  have hv' := hv
  obtain ⟨l, h1, h2⟩ := hv
  refine OpOK.pure (v := a.eval y) ?_ hv' h
  simp [execOp, ho, h2]
theorem ok_nilCheckF {o : Oper} {a : Act} {α : XM} {s : XS} {w : World} {f : XF} (h : HR α s w) (k : FR1 α f a) {y : Operand} (ho : o.op = .nilCheck y) {g : FuncId} {xs ys : List (Option XA)} (hy : evX f y = some (.one (.fn g xs ys))) : OpOK P o a α s w (.one (.fn g xs ys)) s := by
  have hv := evX_ok k hy
  have hv' := hv
  obtain ⟨us, vs, _, _, h2⟩ := hv
  refine OpOK.pure (v := a.eval y) ?_ hv' h
  simp [execOp, ho, h2]
def convX (P : Program) (t u : TypeId) : XV → Option XV
  | .one (.int k n) => match P.underlying t, P.underlying u with
    | some (.int _), some (.int j) => pureX (Conv.intToInt j n)
    | _, _ => none
  | .one (.str s) => match P.underlying t, P.underlying u with
    | some .string, some .string => some (.one (.str s))
    | _, _ => none
  | _ => none
theorem ok_conv {o : Oper} {a : Act} {α : XM} {s : XS} {w : World} {f : XF} (h : HR α s w) (k : FR1 α f a) {t u : TypeId} {y : Operand} (ho : o.op = .convert t u y) {c x : XV} (hy : evX f y = some c) (hx : convX P t u c = some x) : OpOK P o a α s w x s := by
  have hv := evX_ok k hy
  unfold convX at hx
  split at hx
  · split at hx
    · rename_i h5 h6
      obtain ⟨r, h3, h4⟩ := pureX_ok (P := P) (α := α) hx w
      have hv : a.eval y = _ := hv
      refine OpOK.pure (v := r) ?_ h4 h
      simp [execOp, ho, hv, convert, run_underlying h5, run_underlying h6, h3]
    · cases hx
  · split at hx
    · rename_i h5 h6
      cases hx
      have hv : a.eval y = _ := hv
      refine OpOK.pure (v := .string _) ?_ rfl h
      simp [execOp, ho, hv, convert, run_underlying h5, run_underlying h6]
    · cases hx
  · cases hx
def fieldX (P : Program) (t : TypeId) (i : Nat) : Option Field :=
  match P.underlying t with
  | some (.struct fs) => fs[i]?
  | _ => none
/-- a part of a row of cells -/
def partX (P : Program) (t : TypeId) (l : List XC) (off : Nat) : Option XV :=
  match isAggX P t with
  | some true => match sizeX P t with
    | some n => some (.agg (List.take n (List.drop off l)))
    | none => none
  | some false => match List.drop off l with
    | c :: _ => some (.one c)
    | [] => none
  | none => none
theorem partX_ok {α : XM} {t : TypeId} {l : List XC} {vs : List Value} (h : F2 (CR α) l vs) {off : Nat} {x : XV} (hx : partX P t l off = some x) (w : World) : ∃ v, (part t vs.toArray off).run P w = .ok v w ∧ VR α x v := by
  unfold partX at hx
  split at hx
  · rename_i hag
    cases hs : sizeX P t with
    | none => simp [hs] at hx
    | some n =>
      simp only [hs] at hx
      cases hx
      unfold isAggX at hag
      unfold sizeX at hs
      cases hi : P.info? t with
      | none => simp [hi] at hs
      | some ti =>
        simp only [hi] at hs
        cases hs
        cases hu : P.underlying t with
        | none => simp [hu] at hag
        | some d =>
          refine ⟨.agg ((vs.drop off).take ti.size).toArray, ?_, _, (h.drop off).take ti.size, rfl⟩
          rw [hu] at hag
          have e : vs.toArray.extract off (off + ti.size) = ((vs.drop off).take ti.size).toArray := by
            apply Array.ext'
            simp [List.extract]
          cases d <;> first | (simp at hag; done) | (simp [part, isAgg, run_underlying hu, sizeOf, typeInfo, hi, e])
  · rename_i hag
    split at hx
    · rename_i c r hd
      cases hx
      have h2 := h.drop off
      rw [hd] at h2
      cases hv : vs.drop off with
      | nil => rw [hv] at h2; cases h2
      | cons v r' =>
        rw [hv] at h2
        cases h2 with
        | cons h3 _ =>
          refine ⟨v, ?_, h3⟩
          have hc : vs.toArray[off]? = some v := by
            have : (vs.drop off)[0]? = some v := by rw [hv]; rfl
            rw [List.getElem?_drop, Nat.add_zero] at this
            simpa using this
          unfold isAggX at hag
          cases hu : P.underlying t with
          | none => simp [hu] at hag
          | some d =>
            rw [hu] at hag
            have hc' : vs[off]? = some v := by simpa using hc
            cases d <;> first | (simp at hag; done) | (simp [part, isAgg, run_underlying hu, hc, hc'])
    · cases hx
  · cases hx
theorem ok_field {o : Oper} {a : Act} {α : XM} {s : XS} {w : World} {f : XF} (h : HR α s w) (k : FR1 α f a) {t : TypeId} {y : Operand} {i : Nat} (ho : o.op = .field t y i) {l : List XC} (hy : evX f y = some (.agg l)) {fd : Field} (hf : fieldX P t i = some fd) {x : XV} (hx : partX P fd.type l fd.offset = some x) : OpOK P o a α s w x s := by
  obtain ⟨vs, h1, h2⟩ := evX_ok k hy
  obtain ⟨v, h3, h4⟩ := partX_ok (P := P) h1 hx w
  unfold fieldX at hf
  split at hf
  · rename_i fs hu
    refine OpOK.pure (v := v) ?_ h4 h
    simp [execOp, ho, h2, Instr.field, run_underlying hu, hf, asAgg, h3]
  · cases hf
theorem ok_extract {o : Oper} {a : Act} {α : XM} {s : XS} {w : World} {f : XF} (h : HR α s w) (k : FR1 α f a) {y : Operand} {i : Nat} (ho : o.op = .extract y i) {l : List (Bool × List XC)} (hy : evX f y = some (.tup l)) {x : XV} (hx : (match l[i]? with | some (true, c) => some (XV.agg c) | some (false, [c]) => some (XV.one c) | _ => none) = some x) : OpOK P o a α s w x s := by
  obtain ⟨vs, h1, h2⟩ := evX_ok k hy
  have key : ∃ v, vs[i]? = some v ∧ VR α x v := by
    split at hx
    · rename_i c hc
      cases hx
      obtain ⟨v, h3, h4⟩ := h1.get i _ hc
      exact ⟨v, h3, h4⟩
    · rename_i c hc
      cases hx
      obtain ⟨v, h3, h4⟩ := h1.get i _ hc
      obtain ⟨c', h5, h6⟩ := h4
      cases h5
      exact ⟨v, h3, h6⟩
    · cases hx
  obtain ⟨v, h3, h4⟩ := key
  refine OpOK.pure (v := v) ?_ h4 h
  simp [execOp, ho, h2, Instr.extract, h3]
end
end Go.Proofs.YtbddollbjajcnaaGreat
