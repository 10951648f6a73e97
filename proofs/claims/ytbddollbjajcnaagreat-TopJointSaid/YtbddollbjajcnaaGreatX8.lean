/- The evaluator: equal or not: cells, structs, keys. -/
import Derived.Test.YtbddollbjajcnaaGreatX7
import Derived.DeepKeys3
import Derived.MapKept
namespace Go.Proofs.YtbddollbjajcnaaGreat
open Go
noncomputable section
set_option linter.unusedVariables false
set_option linter.unusedSimpArgs false
variable {P : Program}
inductive XSh where
  | bool
  | int (k : IntKind)
  | str
def shapeF (P : Program) (g : TypeId → Option (List XSh)) : Nat → List Field → Option (List XSh)
  | _, [] => some []
  | off, f :: fs => bif Nat.beq f.offset off then
      (match g f.type with
      | some a => bif Nat.beq (P.cellsOf f.type) a.length then
          (match shapeF P g (Nat.add off a.length) fs with
          | some b => some (List.append a b)
          | none => none) else none
      | none => none) else none
def shapeX (P : Program) : Nat → TypeId → Option (List XSh)
  | 0, _ => none
  | d + 1, t => match P.underlying t with
    | some .bool => some [.bool]
    | some (.int q) => some [.int q]
    | some .string => some [.str]
    | some (.struct fs) => bif fs.all (·.name != "_") then
        (match shapeF P (shapeX P d) 0 fs.toList with
        | some a => bif Nat.beq (P.cellsOf t) a.length then some a else none
        | none => none) else none
    | _ => none
def Fit : XSh → Value → Prop
  | .bool, v => ∃ b, v = .bool b
  | .int q, v => ∃ n, v = .int q n ∧ (Lit.int q n).wf = true
  | .str, v => ∃ s, v = .string s ∧ s.size ≤ maxLen
theorem F2.one {A B : Type} {R : A → B → Prop} {a : A} {m : List B} (h : F2 R [a] m) : ∃ b, m = [b] ∧ R a b := by
  cases h with
  | cons h1 h2 => cases h2; exact ⟨_, rfl, h1⟩
theorem F2.split {A B : Type} {R : A → B → Prop} {a b : List A} {m : List B} (h : F2 R (a ++ b) m) : F2 R a (m.take a.length) ∧ F2 R b (m.drop a.length) := by
  have h1 := h.take a.length
  have h2 := h.drop a.length
  simp at h1 h2
  exact ⟨h1, h2⟩
theorem shapeF_ok {g : TypeId → Option (List XSh)} {d : Nat} (hg : ∀ t a vs, g t = some a → F2 Fit a vs → ∃ la, P.keyLits d t vs = some la) (vs0 : List Value) :
    ∀ (fs : List Field) (off : Nat) (a : List XSh), shapeF P g off fs = some a → F2 Fit a (vs0.drop off) → ∃ as, fs.mapM (fun f => P.keyLits d f.type ((vs0.drop f.offset).take (P.cellsOf f.type))) = some as
  | [], _, _, _, _ => ⟨[], rfl⟩
  | f :: fs, off, a, h, k => by
    unfold shapeF at h
    obtain ⟨h1, h⟩ := bif_pos h
    cases hga : g f.type with
    | none => simp [hga] at h
    | some a1 =>
      simp only [hga] at h
      obtain ⟨h2, h⟩ := bif_pos h
      cases hb : shapeF P g (Nat.add off a1.length) fs with
      | none => rw [hb] at h; cases h
      | some b =>
        rw [hb] at h
        cases h
        have h1 := Nat.eq_of_beq_eq_true h1
        have h2 := Nat.eq_of_beq_eq_true h2
        obtain ⟨k1, k2⟩ := F2.split (a := a1) (b := b) k
        rw [List.drop_drop] at k2
        obtain ⟨la, h3⟩ := hg _ _ _ hga k1
        obtain ⟨as, h4⟩ := shapeF_ok hg vs0 fs _ b hb k2
        exact ⟨la :: as, by rw [List.mapM_cons, h1, h2, h3, h4]; rfl⟩
theorem shapeX_ok : ∀ (d : Nat) (t : TypeId) (sh : List XSh), shapeX P d t = some sh → ∀ vs, F2 Fit sh vs → ∃ la, P.keyLits d t vs = some la
  | 0, _, _, h => by cases h
  | d + 1, t, sh, h => by
    intro vs k
    unfold shapeX at h
    split at h
    · rename_i hu
      cases h
      obtain ⟨v, rfl, b, rfl⟩ := k.one
      exact ⟨[.bool b], by simp [Program.keyLits, hu]⟩
    · rename_i q hu
      cases h
      obtain ⟨v, rfl, n, rfl, hw⟩ := k.one
      exact ⟨[.int q n], by simp [Program.keyLits, hu, hw]⟩
    · rename_i hu
      cases h
      obtain ⟨v, rfl, s, rfl, hw⟩ := k.one
      exact ⟨[.string s.data.toList], by simp [Program.keyLits, hu, hw]⟩
    · rename_i fs hu
      obtain ⟨h1, h⟩ := bif_pos h
      cases ha : shapeF P (shapeX P d) 0 fs.toList with
      | none => simp [ha] at h
      | some a =>
        simp only [ha] at h
        obtain ⟨h2, h⟩ := bif_pos h
        cases h
        have h2 := Nat.eq_of_beq_eq_true h2
        obtain ⟨as, h3⟩ := shapeF_ok (d := d) (fun t a vs h k => shapeX_ok d t a h vs k) vs fs.toList 0 sh ha (by simpa using k)
        refine ⟨as.flatten, ?_⟩
        unfold Program.keyLits
        simp only [hu]
        rw [if_pos ⟨by rw [← k.length, h2], h1⟩, h3]
        rfl
    · cases h
def bytesEq : List UInt8 → List UInt8 → Bool
  | [], [] => true
  | a :: l, b :: m => bif Nat.beq a.toNat b.toNat then bytesEq l m else false
  | _, _ => false
theorem bytesEq_ok : ∀ {l m : List UInt8}, bytesEq l m = true ↔ l = m
  | [], [] => by simp [bytesEq]
  | [], _ :: _ => by simp [bytesEq]
  | _ :: _, [] => by simp [bytesEq]
  | a :: l, b :: m => by
    unfold bytesEq
    cases hb : Nat.beq a.toNat b.toNat with
    | true =>
      have : a = b := UInt8.toNat_inj.1 (Nat.eq_of_beq_eq_true hb)
      subst this
      simp [bytesEq_ok (l := l) (m := m)]
    | false =>
      have : a ≠ b := fun e => Nat.ne_of_beq_eq_false hb (by rw [e])
      simp [this]
def intEq : Int → Int → Bool
  | .ofNat m, .ofNat n => Nat.beq m n
  | .negSucc m, .negSucc n => Nat.beq m n
  | _, _ => false
theorem intEq_ok {m n : Int} : intEq m n = true ↔ m = n := by
  cases m <;> cases n
  · rename_i a b
    show Nat.beq a b = true ↔ _
    rw [Nat.beq_eq]
    constructor
    · rintro rfl; rfl
    · intro h; cases h; rfl
  · simp [intEq]
  · simp [intEq]
  · rename_i a b
    show Nat.beq a b = true ↔ _
    rw [Nat.beq_eq]
    constructor
    · rintro rfl; rfl
    · intro h; cases h; rfl
def cellEq : XC → XC → Option Bool
  | .bool a, .bool b => some (bif a then b else Bool.not b)
  | .int k m, .int j n => some (bif kindEq k j then intEq m n else false)
  | .str s, .str t => some (bytesEq s.data.toList t.data.toList)
  | .per k i false, .per j l false => bif kindEq k j then perEq i l else some false
  | .per _ i false, .int _ n => bif Nat.ble i.nat 4 then (match perLow n with | some _ => some false | none => none) else none
  | .int _ n, .per _ i false => bif Nat.ble i.nat 4 then (match perLow n with | some _ => some false | none => none) else none
  | _, _ => none
theorem perLow_ne {α : XM} (h : SymOK α) {i : XP} {l : XL} (hi : Nat.ble i.nat 4 = true) (hl : α i = some l) {n : Int} {lo : Bool} (hn : perLow n = some lo) : (l.room : Int) ≠ n := by
  obtain ⟨h1, h2⟩ := h.span hi hl
  have := perLow_ok hn h1 h2
  cases lo <;> simp at this <;> omega
theorem cellEq_ok {α : XM} (h : SymOK α) {c d : XC} {u v : Value} (hu : CR α c u) (hv : CR α d v) {r : Bool} (hr : cellEq c d = some r) : u = v ↔ r = true := by
  unfold cellEq at hr
  split at hr
  · rename_i a b
    obtain rfl := hu
    obtain rfl := hv
    cases hr
    cases a <;> cases b <;> simp
  · rename_i k m j n
    obtain rfl := hu
    obtain rfl := hv
    cases hr
    cases hb : kindEq k j with
    | true =>
      have := kindEq_ok hb
      subst this
      simp [intEq_ok]
    | false =>
      have : k ≠ j := fun e => by subst e; cases k <;> cases hb
      simp [this]
  · rename_i s t
    obtain rfl := hu
    obtain rfl := hv
    cases hr
    rw [bytesEq_ok]
    obtain ⟨⟨s⟩⟩ := s
    obtain ⟨⟨t⟩⟩ := t
    simp
  · obtain ⟨l, hl, rfl⟩ := hu
    obtain ⟨m, hm, rfl⟩ := hv
    rename_i k i j l'
    rw [perCell, perCell]
    cases hb : kindEq k j with
    | true =>
      simp only [hb, cond_true] at hr
      have := kindEq_ok hb
      subst this
      have := perEq_ok h hl hm hr
      rw [← this]
      first | (simp; done) | (simp; omega)
    | false =>
      simp only [hb, cond_false] at hr
      cases hr
      have : k ≠ j := fun e => by subst e; cases k <;> cases hb
      simp [this]
  · obtain ⟨hi, hr⟩ := bif_pos hr
    obtain ⟨l, hl, rfl⟩ := hu
    obtain rfl := hv
    rw [perCell]
    split at hr
    · rename_i lo hlo
      cases hr
      have := perLow_ne h hi hl hlo
      simp [this]
    · cases hr
  · obtain ⟨hi, hr⟩ := bif_pos hr
    obtain ⟨l, hl, rfl⟩ := hv
    obtain rfl := hu
    rw [perCell]
    split at hr
    · rename_i lo hlo
      cases hr
      have := perLow_ne h hi hl hlo
      simp [this.symm]
    · cases hr
  · cases hr
def cellsEq : List XC → List XC → Option Bool
  | [], [] => some true
  | a :: l, b :: m => match cellEq a b with
    | some true => cellsEq l m
    | some false => some false
    | none => match cellsEq l m with
      | some false => some false
      | _ => none
  | _, _ => none
theorem cellsEq_ok {α : XM} (h : SymOK α) : ∀ {l m : List XC} {us vs : List Value}, F2 (CR α) l us → F2 (CR α) m vs → ∀ {r : Bool}, cellsEq l m = some r → (us = vs ↔ r = true)
  | [], [], _, _, .nil, .nil, r, hr => by cases hr; simp
  | a :: l, b :: m, _, _, .cons h1 t1, .cons h2 t2, r, hr => by
    unfold cellsEq at hr
    split at hr
    · rename_i hc
      have := cellEq_ok h h1 h2 hc
      have ih := cellsEq_ok h t1 t2 hr
      simp [this, ih]
    · rename_i hc
      have := cellEq_ok h h1 h2 hc
      cases hr
      simp [this]
    · split at hr
      · rename_i hc
        cases hr
        have ih := cellsEq_ok h t1 t2 hc
        simp [ih]
      · cases hr
  | [], _ :: _, _, _, _, _, _, hr => by cases hr
  | _ :: _, [], _, _, _, _, _, hr => by cases hr
def valEq : XV → XV → Option Bool
  | .one c, .one d => cellEq c d
  | .agg l, .agg m => cellsEq l m
  | _, _ => none
theorem valEq_ok {α : XM} (h : SymOK α) {x y : XV} {u v : Value} (hu : VR α x u) (hv : VR α y v) {r : Bool} (hr : valEq x y = some r) : u = v ↔ r = true := by
  unfold valEq at hr
  split at hr
  · exact cellEq_ok h hu hv hr
  · obtain ⟨us, h1, rfl⟩ := hu
    obtain ⟨vs, h2, rfl⟩ := hv
    rw [← cellsEq_ok h h1 h2 hr]
    simp
  · cases hr
def wfX (q : IntKind) (n : Int) : Bool :=
  match n with
  | .ofNat m => bif Nat.ble m 127 then true else (Lit.int q n).wf
  | _ => (Lit.int q n).wf
theorem wf_small (q : IntKind) {n : Int} (h0 : 0 ≤ n) (h1 : n ≤ 127) : (Lit.int q n).wf = true := by
  cases q <;> simp [Lit.wf, IntKind.min, IntKind.max, IntKind.signed, IntKind.bits] <;> omega
theorem wfX_ok {q : IntKind} {n : Int} (h : wfX q n = true) : (Lit.int q n).wf = true := by
  unfold wfX at h
  split at h
  · rename_i m
    cases hb : Nat.ble m 127 with
    | true =>
      have := Nat.le_of_ble_eq_true hb
      exact wf_small q (by show (0 : Int) ≤ (m : Int); omega) (by show (m : Int) ≤ 127; omega)
    | false => rw [hb] at h; exact h
  · exact h
def fitC : XSh → XC → Bool
  | .bool, .bool _ => true
  | .int q, .int k n => bif kindEq q k then wfX q n else false
  | .int q, .per k i false => bif kindEq q k then Nat.ble i.nat 4 else false
  | .str, .str s => Nat.ble s.size maxLen
  | _, _ => false
theorem fitC_ok {α : XM} (h : SymOK α) {s : XSh} {c : XC} {v : Value} (hv : CR α c v) (hf : fitC s c = true) : Fit s v := by
  unfold fitC at hf
  split at hf
  · exact ⟨_, hv⟩
  · rename_i q k n
    cases hb : kindEq q k with
    | false => rw [hb] at hf; cases hf
    | true =>
      rw [hb] at hf
      have := kindEq_ok hb
      subst this
      exact ⟨n, hv, wfX_ok hf⟩
  · rename_i q k i
    cases hb : kindEq q k with
    | false => rw [hb] at hf; cases hf
    | true =>
      rw [hb] at hf
      have := kindEq_ok hb
      subst this
      obtain ⟨l, hl, rfl⟩ := hv
      obtain ⟨h1, h2⟩ := h.span hf hl
      rw [perCell]
      exact ⟨_, rfl, wf_small q (by omega) (by omega)⟩
  · exact ⟨_, hv, Nat.le_of_ble_eq_true hf⟩
  · cases hf
def fitsC : List XSh → List XC → Bool
  | [], [] => true
  | s :: sh, c :: l => bif fitC s c then fitsC sh l else false
  | _, _ => false
theorem fitsC_ok {α : XM} (h : SymOK α) : ∀ {sh : List XSh} {l : List XC} {vs : List Value}, F2 (CR α) l vs → fitsC sh l = true → F2 Fit sh vs
  | [], [], _, .nil, _ => .nil
  | s :: sh, c :: l, _, .cons h1 h2, hf => by
    unfold fitsC at hf
    cases hb : fitC s c with
    | false => rw [hb] at hf; cases hf
    | true => rw [hb] at hf; exact .cons (fitC_ok h h1 hb) (fitsC_ok h h2 hf)
  | [], _ :: _, _, _, hf => by cases hf
  | _ :: _, [], _, _, hf => by cases hf
/-- structs that can be compared: the shape of their cells -/
def eqShape (P : Program) (t : TypeId) : Option (List XSh) :=
  match P.underlying t with
  | some (.struct _) => bif P.keyTypeAt 8 t then (bif P.tiled 8 t then (bif P.eqGuardType P.depth t then none else shapeX P 8 t) else none) else none
  | _ => none
theorem aggEq {α : XM} (h : SymOK α) {t : TypeId} {sh : List XSh} (hs : eqShape P t = some sh) {l m : List XC} {us vs : List Value} (h1 : F2 (CR α) l us) (h2 : F2 (CR α) m vs) (f1 : fitsC sh l = true) (f2 : fitsC sh m = true) {r : Bool} (hr : cellsEq l m = some r) (w : World) :
    (Op.equal t (.agg us.toArray) (.agg vs.toArray)).run P w = .ok r w ∧ P.eqGuardType P.depth t = false := by
  unfold eqShape at hs
  split at hs
  · rename_i fs hu
    obtain ⟨hk, hs⟩ := bif_pos hs
    obtain ⟨ht, hs⟩ := bif_pos hs
    cases hg : P.eqGuardType P.depth t with
    | true => rw [hg] at hs; cases hs
    | false =>
      rw [hg] at hs
      have hs : shapeX P 8 t = some sh := hs
      obtain ⟨la, k1⟩ := shapeX_ok 8 t sh hs us (fitsC_ok h h1 f1)
      obtain ⟨lb, k2⟩ := shapeX_ok 8 t sh hs vs (fitsC_ok h h2 f2)
      have len : ∀ {xs : List Value} {lx : List Lit}, P.keyLits 8 t xs = some lx → xs.length = P.cellsOf t := by
        intro xs lx hx
        unfold Program.keyLits at hx
        simp only [hu] at hx
        split at hx
        · rename_i hl; exact hl.1
        · cases hx
      have fo : ∀ {xs : List Value} {lx : List Lit}, P.keyLits 8 t xs = some lx → (Value.agg xs.toArray).formed P t = true := by
        intro xs lx hx
        simp [Value.formed, hu, len hx]
      obtain ⟨r', e1, e2⟩ := run_equalIn_deep 9992 8 t hk w 8 8 (.agg us.toArray) (.agg vs.toArray) la lb (fo k1) (fo k2) (by simpa [Value.cells] using k1) (by simpa [Value.cells] using k2)
      have c1 := cells_of_lits 8 t ht 8 us la k1
      have c2 := cells_of_lits 8 t ht 8 vs lb k2
      have e3 : la = lb ↔ us = vs := ⟨fun e => by rw [c1, c2, e], fun e => by rw [e, k2] at k1; exact (Option.some.inj k1).symm⟩
      have e4 := cellsEq_ok h h1 h2 hr
      have : r' = r := by
        cases r' <;> cases r <;> simp_all
      subst this
      exact ⟨e1, rfl⟩
  · cases hs
theorem aggEq_says {α : XM} (h : SymOK α) {t : TypeId} {sh : List XSh} (hs : eqShape P t = some sh) {l m : List XC} {u v : Value} (h1 : VR α (.agg l) u) (h2 : VR α (.agg m) v) (f1 : fitsC sh l = true) (f2 : fitsC sh m = true) {r : Bool} (hr : cellsEq l m = some r) :
    BinSays P α .eql t u v (.one (.bool r)) ∧ BinSays P α .neq t u v (.one (.bool (!r))) := by
  obtain ⟨us, h1, rfl⟩ := h1
  obtain ⟨vs, h2, rfl⟩ := h2
  constructor
  · intro y z w
    obtain ⟨e1, e2⟩ := aggEq h hs h1 h2 f1 f2 hr w
    exact ⟨.bool r, by simp [eqGuard, e2, binOp, e1], rfl⟩
  · intro y z w
    obtain ⟨e1, e2⟩ := aggEq h hs h1 h2 f1 f2 hr w
    exact ⟨.bool (!r), by simp [eqGuard, e2, binOp, e1], rfl⟩
end
end Go.Proofs.YtbddollbjajcnaaGreat
