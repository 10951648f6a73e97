/- The evaluator: structs and slices built. -/
import Derived.Test.YtbddollbjajcnaaGreatX11
import Derived.Great.FillDense
import Derived.Great.BuildSlice
import Derived.Laws.Tables
import Derived.Laws.MakeOwn
namespace Go.Proofs.YtbddollbjajcnaaGreat
open Go
noncomputable section
set_option linter.unusedVariables false
set_option linter.unusedSimpArgs false
variable {P : Program}
/-- one part's cells go in -/
def putX (cs : List XC) (off : Nat) (xs : List XC) : List XC := List.append (List.take off cs) (List.append xs (List.drop (Nat.add off xs.length) cs))
theorem putX_ok {α : XM} {cs xs : List XC} {vs : Array Value} {us : Array Value} (h : F2 (CR α) cs vs.toList) (k : F2 (CR α) xs us.toList) {off : Nat} (hle : off + xs.length ≤ cs.length) :
    F2 (CR α) (putX cs off xs) (us.zipIdx.foldl (fun cs (x : Value × Nat) => cs.setIfInBounds (off + x.2) x.1) vs).toList := by
  have e : us.zipIdx.foldl (fun cs (x : Value × Nat) => cs.setIfInBounds (off + x.2) x.1) vs = (us.toList.zipIdx 0).foldl (fun cs (x : Value × Nat) => cs.setIfInBounds (off + x.2) x.1) vs := by
    rw [← Array.foldl_toList]
    simp
  obtain ⟨h1, h2⟩ := Great.foldl_set off us.toList 0 vs
  rw [e]
  have hl := h.length
  have kl := k.length
  have hsz : vs.size = cs.length := by simpa using hl.symm
  refine F2.of ?_ fun i x v hx hv => ?_
  · refine Eq.trans ?_ (Eq.symm (Eq.trans Array.length_toList h1))
    show (List.take off cs ++ (xs ++ List.drop (off + xs.length) cs)).length = _
    simp only [List.length_append, List.length_take, List.length_drop]
    omega
  · rw [Array.getElem?_toList, h2 i] at hv
    have hx : (List.take off cs ++ (xs ++ List.drop (off + xs.length) cs))[i]? = some x := hx
    by_cases c1 : i < off
    · rw [if_neg (by omega)] at hv
      rw [List.getElem?_append_left (by rw [List.length_take]; omega), List.getElem?_take, if_pos c1] at hx
      obtain ⟨u, h3, h4⟩ := h.get i x hx
      rw [Array.getElem?_toList, hv] at h3
      cases h3
      exact h4
    · rw [List.getElem?_append_right (by rw [List.length_take]; omega), List.length_take, Nat.min_eq_left (by omega)] at hx
      by_cases c2 : i < off + xs.length
      · rw [if_pos ⟨by omega, by omega, by omega⟩] at hv
        rw [List.getElem?_append_left (by omega)] at hx
        obtain ⟨u, h3, h4⟩ := k.get _ _ hx
        rw [Nat.add_zero, h3] at hv
        cases hv
        exact h4
      · rw [if_neg (by omega)] at hv
        rw [List.getElem?_append_right (by omega), List.getElem?_drop, show off + xs.length + (i - off - xs.length) = i by omega] at hx
        obtain ⟨u, h3, h4⟩ := h.get i x hx
        rw [Array.getElem?_toList, hv] at h3
        cases h3
        exact h4
def fillX (place : Nat → Option (Nat × Nat)) : List XC → List (Nat × XV) → Option (List XC)
  | cs, [] => some cs
  | cs, (i, x) :: r => match place i with
    | some (off, size) => match x.cells with
      | some xs => bif Nat.beq xs.length size then (bif Nat.ble (Nat.add off xs.length) cs.length then fillX place (putX cs off xs) r else none) else none
      | none => none
    | none => none
theorem fillX_ok {α : XM} {place : Nat → Option (Nat × Nat)} : ∀ {ps : List (Nat × XV)} {qs : List (Nat × Value)}, F2 (fun p q => p.1 = q.1 ∧ VR α p.2 q.2) ps qs → ∀ {cs cs' : List XC} {vs : Array Value}, F2 (CR α) cs vs.toList → fillX place cs ps = some cs' →
    ∃ vs' : Array Value, Instr.fill place vs qs = some vs' ∧ F2 (CR α) cs' vs'.toList
  | [], _, .nil, cs, cs', vs, h, hf => by cases hf; exact ⟨vs, rfl, h⟩
  | (i, x) :: r, (j, v) :: q, .cons h1 h2, cs, cs', vs, h, hf => by
    obtain ⟨rfl, h1⟩ := h1
    unfold fillX at hf
    cases hp : place i with
    | none => simp [hp] at hf
    | some os =>
      obtain ⟨off, size⟩ := os
      cases hx : x.cells with
      | none => simp [hp, hx] at hf
      | some xs =>
        simp only [hp, hx] at hf
        have p0 := bif_pos hf
        clear hf
        obtain ⟨c1, hf1⟩ := p0
        have p1 := bif_pos hf1
        clear hf1
        obtain ⟨c2, hf⟩ := p1
        have c1 := Nat.eq_of_beq_eq_true c1
        have c2 : off + xs.length ≤ cs.length := Nat.le_of_ble_eq_true c2
        obtain ⟨us, k1, k2⟩ := VR.cells h1 hx
        have k1' : F2 (CR α) xs v.cells.toList := by rw [k2]; exact k1
        have h' := putX_ok h k1' c2
        obtain ⟨vs', e1, e2⟩ := fillX_ok h2 h' hf
        refine ⟨vs', ?_, e2⟩
        have l1 : v.cells.size = size := by rw [← c1, k1'.length]; simp
        have l2 : vs.size = cs.length := by rw [h.length]; simp
        unfold Instr.fill
        simp only [hp]
        rw [if_neg (by
          simp only [Bool.or_eq_true, bne_iff_ne, ne_eq, decide_eq_true_eq, not_or, Decidable.not_not]
          have := k1'.length
          simp at this
          exact ⟨l1, by omega⟩)]
        exact e1
def partsX (f : XF) : List (Nat × Operand) → Option (List (Nat × XV))
  | [] => some []
  | (i, o) :: r => match evX f o with
    | some x => match partsX f r with
      | some l => some ((i, x) :: l)
      | none => none
    | none => none
theorem partsX_ok {α : XM} {f : XF} {a : Act} (k : FR1 α f a) : ∀ {l : List (Nat × Operand)} {m : List (Nat × XV)}, partsX f l = some m → F2 (fun p q => p.1 = q.1 ∧ VR α p.2 q.2) m (l.map fun (i, x) => (i, a.eval x))
  | [], m, h => by cases h; exact .nil
  | (i, o) :: r, m, h => by
    unfold partsX at h
    cases he : evX f o with
    | none => simp [he] at h
    | some x =>
      cases hr : partsX f r with
      | none => simp [he, hr] at h
      | some l =>
        simp only [he, hr] at h
        cases h
        exact .cons ⟨rfl, evX_ok k he⟩ (partsX_ok k hr)
def placesX (P : Program) (t : TypeId) : Option (List (Nat × Nat)) :=
  match P.underlying t with
  | some (.struct fs) => fs.toList.mapM (fun f => (P.info? f.type).map fun i => (f.offset, i.size))
  | _ => none
def buildX (P : Program) (t : TypeId) (ps : List (Nat × XV)) : Option (List XC) :=
  match placesX P t with
  | some pl => match zeroX P t with
    | some (.agg z) => fillX (fun i => pl[i]?) z ps
    | _ => none
  | none => none
theorem ok_build {o : Oper} {a : Act} {α : XM} {s : XS} {w : World} {f : XF} (h : HR α s w) (k : FR1 α f a) {t : TypeId} {parts : Array (Nat × Operand)} (ho : o.op = .build t parts) {ps : List (Nat × XV)} (hp : partsX f parts.toList = some ps) {cs : List XC} (hx : buildX P t ps = some cs) : OpOK P o a α s w (.agg cs) s := by
  unfold buildX placesX at hx
  cases hu : P.underlying t with
  | none => simp [hu] at hx
  | some d =>
    cases d with
    | struct fs =>
      simp only [hu] at hx
      cases hpl : fs.toList.mapM (fun f => (P.info? f.type).map fun i => (f.offset, i.size)) with
      | none => rw [hpl] at hx; cases hx
      | some pl =>
        rw [hpl] at hx
        unfold zeroX at hx
        cases hi : P.info? t with
        | none => simp [hi] at hx
        | some it =>
          cases hz : it.zero with
          | none => simp [hi, hz] at hx
          | some zv =>
            simp only [hi, hz] at hx
            split at hx
            · rename_i z hzz
              obtain ⟨vs, h1, h2⟩ := (constX_ok (α := α) hzz)
              obtain ⟨vs', h3, h4⟩ := fillX_ok (partsX_ok k hp) (vs := zv.cells) (by rw [h2]; simpa [Value.cells] using h1) hx
              have hb : P.built t (parts.map fun (i, x) => (i, a.eval x)).toList = some vs' := by
                unfold Program.built
                simp only [hi, hu, hz, hpl]
                have e : (fun i : Nat => pl.toArray[i]?) = fun i => pl[i]? := by funext i; simp
                rw [e, Array.toList_map]
                exact h3
              refine OpOK.pure (v := .agg vs') ?_ ⟨vs'.toList, h4, by simp⟩ h
              have := run_build w t _ vs' hb
              simp only [execOp, ho, Sem.run_bind, this, Result.andThen_ok]
              rfl
            · cases hx
    | _ => simp [hu] at hx
def repX : Nat → List XC → List XC
  | 0, _ => []
  | n + 1, z => List.append z (repX n z)
theorem repX_len (z : List XC) : ∀ n, (repX n z).length = n * z.length
  | 0 => by simp [repX]
  | n + 1 => by
    show (z ++ repX n z).length = _
    rw [List.length_append, repX_len z n, Nat.succ_mul]
    omega
theorem repX_get (z : List XC) : ∀ (n i : Nat), i < n * z.length → (repX n z)[i]? = z[i % z.length]?
  | 0, i, h => by omega
  | n + 1, i, h => by
    show (z ++ repX n z)[i]? = _
    by_cases c : i < z.length
    · rw [List.getElem?_append_left c, Nat.mod_eq_of_lt c]
    · rw [Nat.succ_mul] at h
      rw [List.getElem?_append_right (by omega), repX_get z n _ (by omega), ← Nat.mod_eq_sub_mod (by omega)]
theorem made_ok {α : XM} {z : List XC} {vs : Array Value} (h : F2 (CR α) z vs.toList) (hz : z.length ≠ 0) (n : Nat) : F2 (CR α) (repX n z) ((Array.range (n * z.length)).map (vs[· % vs.size]!)).toList := by
  have hl : z.length = vs.size := by simpa using h.length
  refine F2.of (by rw [repX_len]; simp) fun i x v hx hv => ?_
  have hi : i < n * z.length := by
    have := (List.getElem?_eq_some_iff.1 hx).1
    rwa [repX_len] at this
  rw [repX_get z n i hi] at hx
  obtain ⟨u, h1, h2⟩ := h.get _ _ hx
  have hlt : i % vs.size < vs.size := Nat.mod_lt _ (by omega)
  have : v = vs[i % vs.size]! := by
    rw [Array.getElem?_toList] at hv
    simp at hv
    obtain ⟨a, e1, e2⟩ := hv
    rw [Array.getElem?_eq_getElem (by simpa using hi)] at e1
    simp at e1
    subst e1
    exact e2.symm
  rw [hl, Array.getElem?_toList] at h1
  rw [this, getElem!_pos vs _ hlt]
  rw [Array.getElem?_eq_getElem hlt] at h1
  cases h1
  exact h2
def buildSliceX (P : Program) (t : TypeId) (len : Nat) (ps : List (Nat × XV)) : Option (List XC) :=
  match P.underlying t with
  | some (.slice e) => match zeroX P e with
    | some z => match z.cells with
      | some zs => match sizeX P e with
        | some sz => bif Nat.beq zs.length sz then (bif Nat.beq sz 0 then none else bif Nat.beq len 0 then none else bif Nat.ble (Nat.mul len sz) 1000 then
            fillX (fun i => some (Nat.mul i sz, sz)) (repX len zs) ps else none) else none
        | none => none
      | none => none
    | none => none
  | _ => none
end
end Go.Proofs.YtbddollbjajcnaaGreat
