/- The evaluator: persons, places of fields and elements, slices. -/
import Derived.Test.YtbddollbjajcnaaGreatX5
namespace Go.Proofs.YtbddollbjajcnaaGreat
open Go
noncomputable section
set_option linter.unusedVariables false
set_option linter.unusedSimpArgs false
variable {P : Program}
theorem CR.slc {α : XM} {b : XP} {o n : Nat} {cap : XCap} {v : Value} (h : CR α (.slice (some (b, o)) n cap) v) : ∃ l c, α b = some l ∧ n ≤ c ∧ v = .slice (some ⟨l.blk, o, none⟩) n c := by
  cases cap with
  | is c => obtain ⟨h0, l, h1, h2⟩ := h; exact ⟨l, c, h1, h0, h2⟩
  | opn z => obtain ⟨l, c, h1, _, h3, h4⟩ := h; exact ⟨l, c, h1, h3, h4⟩
def kindNo : IntKind → Nat
  | .i8 => 0 | .i16 => 1 | .i32 => 2 | .i64 => 3 | .u8 => 4 | .u16 => 5 | .u32 => 6 | .u64 => 7
def kindEq (k j : IntKind) : Bool := Nat.beq (kindNo k) (kindNo j)
theorem kindEq_ok {k j : IntKind} (h : kindEq k j = true) : k = j := by
  cases k <;> cases j <;> first | rfl | (exact absurd h (by decide))
def optNot : Option Bool → Option Bool
  | some r => some (Bool.not r)
  | none => none
def perEq (i j : XP) : Option Bool := bif i.beq j then some true else bif Nat.ble i.nat 4 then (bif Nat.ble j.nat 4 then some false else none) else none
def perLt (i j : XP) : Option Bool :=
  bif i.beq j then some false else
  match i, j with
  | .one, .even .one => some true
  | .even .one, .one => some false
  | _, _ => none
def perBin (b : BinOp) (i j : XP) : Option Bool :=
  match b with
  | .eql => perEq i j
  | .neq => optNot (perEq i j)
  | .lss => perLt i j
  | .gtr => perLt j i
  | .leq => optNot (perLt j i)
  | .geq => optNot (perLt i j)
  | _ => none
/-- whether a number lies below all persons, or above all -/
def perLow : Int → Option Bool
  | .ofNat n => bif Nat.beq n 0 then some true else bif Nat.ble n 4 then none else some false
  | .negSucc _ => some true
def perCon (b : BinOp) (n : Int) : Option Bool :=
  match perLow n with
  | none => none
  | some lo => match b with
    | .eql => some false
    | .neq => some true
    | .lss => some (Bool.not lo)
    | .leq => some (Bool.not lo)
    | .gtr => some lo
    | .geq => some lo
    | _ => none
def conPer (b : BinOp) (n : Int) : Option Bool :=
  match perLow n with
  | none => none
  | some lo => match b with
    | .eql => some false
    | .neq => some true
    | .lss => some lo
    | .leq => some lo
    | .gtr => some (Bool.not lo)
    | .geq => some (Bool.not lo)
    | _ => none
theorem perEq_ok {α : XM} (h : SymOK α) {i j : XP} {l m : XL} (hl : α i = some l) (hm : α j = some m) {r : Bool} (hr : perEq i j = some r) : l.room = m.room ↔ r = true := by
  unfold perEq at hr
  cases hb : i.beq j with
  | true =>
    have := XP.beq_eq.1 hb
    subst this
    rw [hl] at hm
    cases hm
    simp only [hb, cond_true] at hr
    cases hr
    simp
  | false =>
    simp only [hb, cond_false] at hr
    cases h1 : Nat.ble i.nat 4 with
    | false => simp only [h1, cond_false] at hr; cases hr
    | true =>
      cases h2 : Nat.ble j.nat 4 with
      | false => simp only [h1, h2, cond_false, cond_true] at hr; cases hr
      | true =>
        simp only [h1, h2, cond_true] at hr
        cases hr
        refine ⟨fun e => ?_, fun e => by cases e⟩
        have := h.apart i j l m h1 h2 hl hm e
        subst this
        rw [XP.beq_eq.2 rfl] at hb
        cases hb
theorem perLt_ok {α : XM} (h : SymOK α) {i j : XP} {l m : XL} (hl : α i = some l) (hm : α j = some m) {r : Bool} (hr : perLt i j = some r) : l.room < m.room ↔ r = true := by
  unfold perLt at hr
  cases hb : i.beq j with
  | true =>
    have := XP.beq_eq.1 hb
    subst this
    rw [hl] at hm
    cases hm
    simp only [hb, cond_true] at hr
    cases hr
    simp
  | false =>
    simp only [hb, cond_false] at hr
    split at hr
    · cases hr
      simp [h.first _ _ hl hm]
    · cases hr
      have := h.first _ _ hm hl
      refine ⟨fun e => by omega, fun e => by cases e⟩
    · cases hr
theorem perCell {l : XL} : ((l.room : Int) - if false = true then 1 else 0) = (l.room : Int) := by simp
/-- what a binary operation on two values gives, whatever the operands are -/
def BinSays (P : Program) (α : XM) (b : BinOp) (t : TypeId) (u v : Value) (x : XV) : Prop :=
  ∀ (y z : Operand) (w : World), ∃ r, (do eqGuard b t y z u v; binOp b t u v : Sem Value).run P w = .ok r w ∧ VR α x r
theorem BinSays.int {α : XM} {b : BinOp} {t : TypeId} {k : IntKind} {m n : Int} {x : XV} (h : ∀ w, ∃ r, (binOp b t (.int k m) (.int k n)).run P w = .ok r w ∧ VR α x r) : BinSays P α b t (.int k m) (.int k n) x := fun y z w => by
  obtain ⟨r, h1, h2⟩ := h w
  refine ⟨r, ?_, h2⟩
  have : (eqGuard b t y z (.int k m) (.int k n)).run P w = .ok () w := by unfold eqGuard; cases b <;> simp
  simp only [Sem.run_bind, this, Result.andThen_ok, h1]
theorem intCmp_says {α : XM} {b : BinOp} {t : TypeId} {k : IntKind} {m n : Int} {r : Bool} (h : match b with | .eql => (m = n ↔ r = true) | .neq => (m ≠ n ↔ r = true) | .lss => (m < n ↔ r = true) | .leq => (m ≤ n ↔ r = true) | .gtr => (n < m ↔ r = true) | .geq => (n ≤ m ↔ r = true) | _ => False) :
    BinSays P α b t (.int k m) (.int k n) (.one (.bool r)) := BinSays.int fun w => by
  refine ⟨.bool r, ?_, rfl⟩
  cases b <;> first | (exact h.elim) | skip
  all_goals (simp only at h; simp only [binOp, Op.intCmp, ne_eq, not_true_eq_false, if_false])
  · rw [show (m == n) = r by cases r <;> simp_all]; rfl
  · rw [show (m != n) = r by cases r <;> simp_all]; rfl
  · rw [show decide (m < n) = r by cases r <;> simp_all]; rfl
  · rw [show decide (m ≤ n) = r by cases r <;> simp_all]; rfl
  · rw [show decide (m > n) = r by cases r <;> simp_all]; rfl
  · rw [show decide (m ≥ n) = r by cases r <;> simp_all]; rfl
theorem optNot_ok {q : Option Bool} {r : Bool} (h : optNot q = some r) : ∃ s, q = some s ∧ r = !s := by
  cases q with
  | none => cases h
  | some s => cases h; exact ⟨s, rfl, rfl⟩
theorem perBin_says {α : XM} (h : SymOK α) {b : BinOp} {t : TypeId} {k : IntKind} {i j : XP} {u v : Value} (hu : CR α (.per k i false) u) (hv : CR α (.per k j false) v) {r : Bool} (hr : perBin b i j = some r) : BinSays P α b t u v (.one (.bool r)) := by
  obtain ⟨l, hl, rfl⟩ := hu
  obtain ⟨m, hm, rfl⟩ := hv
  rw [perCell, perCell]
  apply intCmp_says
  unfold perBin at hr
  cases b <;> simp only at hr ⊢ <;> first | (cases hr; done) | skip
  · have := perEq_ok h hl hm hr; rw [← this]; omega
  · obtain ⟨q, h1, rfl⟩ := optNot_ok hr
    have := perEq_ok h hl hm h1
    cases q with
    | true => have e := this.2 rfl; simp; omega
    | false => have e := mt this.1 (by simp); simp; omega
  · have := perLt_ok h hl hm hr; rw [← this]; omega
  · obtain ⟨q, h1, rfl⟩ := optNot_ok hr
    have := perLt_ok h hm hl h1
    cases q with
    | true => have e := this.2 rfl; simp; omega
    | false => have e := mt this.1 (by simp); simp; omega
  · have := perLt_ok h hm hl hr; rw [← this]; omega
  · obtain ⟨q, h1, rfl⟩ := optNot_ok hr
    have := perLt_ok h hl hm h1
    cases q with
    | true => have e := this.2 rfl; simp; omega
    | false => have e := mt this.1 (by simp); simp; omega
theorem SymOK.span {α : XM} (h : SymOK α) {i : XP} {l : XL} (hi : Nat.ble i.nat 4 = true) (hl : α i = some l) : 1 ≤ l.room ∧ l.room ≤ 4 := by
  obtain ⟨l', h1, h2⟩ := h.at' i hi
  rw [hl] at h1
  cases h1
  exact h2
theorem perLow_ok {n : Int} {lo : Bool} (h : perLow n = some lo) {r : Nat} (h1 : 1 ≤ r) (h2 : r ≤ 4) : if lo then n < (r : Int) else (r : Int) < n := by
  unfold perLow at h
  split at h
  · rename_i m
    cases hb : Nat.beq m 0 with
    | true =>
      simp only [hb, cond_true] at h
      cases h
      have := Nat.eq_of_beq_eq_true hb
      subst this
      simp only [if_true]
      show (0 : Int) < _
      omega
    | false =>
      simp only [hb, cond_false] at h
      cases hc : Nat.ble m 4 with
      | true => simp only [hc, cond_true] at h; cases h
      | false =>
        simp only [hc, cond_false] at h
        cases h
        have : ¬ m ≤ 4 := fun e => by rw [Nat.ble_eq_true_of_le e] at hc; cases hc
        show (r : Int) < (m : Int)
        omega
  · rename_i m
    cases h
    show Int.negSucc m < _
    omega
theorem perCon_says {α : XM} (h : SymOK α) {b : BinOp} {t : TypeId} {k : IntKind} {i : XP} {u : Value} (hi : Nat.ble i.nat 4 = true) (hu : CR α (.per k i false) u) {n : Int} {r : Bool} (hr : perCon b n = some r) : BinSays P α b t u (.int k n) (.one (.bool r)) := by
  obtain ⟨l, hl, rfl⟩ := hu
  rw [perCell]
  apply intCmp_says
  obtain ⟨h1, h2⟩ := h.span hi hl
  unfold perCon at hr
  split at hr
  · cases hr
  · rename_i lo hlo
    have := perLow_ok hlo h1 h2
    cases lo <;> cases b <;> simp at hr this ⊢ <;> first | (subst hr; simp; omega) | omega
theorem conPer_says {α : XM} (h : SymOK α) {b : BinOp} {t : TypeId} {k : IntKind} {i : XP} {u : Value} (hi : Nat.ble i.nat 4 = true) (hu : CR α (.per k i false) u) {n : Int} {r : Bool} (hr : conPer b n = some r) : BinSays P α b t (.int k n) u (.one (.bool r)) := by
  obtain ⟨l, hl, rfl⟩ := hu
  rw [perCell]
  apply intCmp_says
  obtain ⟨h1, h2⟩ := h.span hi hl
  unfold conPer at hr
  split at hr
  · cases hr
  · rename_i lo hlo
    have := perLow_ok hlo h1 h2
    cases lo <;> cases b <;> simp at hr this ⊢ <;> first | (subst hr; simp; omega) | omega
theorem wrap_small (k : IntKind) {n : Int} (h0 : 0 ≤ n) (h1 : n ≤ 4) : k.wrap n = n := by
  have : n = 0 ∨ n = 1 ∨ n = 2 ∨ n = 3 ∨ n = 4 := by omega
  rcases this with rfl | rfl | rfl | rfl | rfl <;> cases k <;> decide
/-- one more than what the tape gave -/
theorem addPer_says {α : XM} (h : SymOK α) {t : TypeId} {k : IntKind} {i : XP} {u : Value} (hi : Nat.ble i.nat 4 = true) (hu : CR α (.per k i true) u) : BinSays P α .add t (.int k 1) u (.one (.per k i false)) := by
  obtain ⟨l, hl, rfl⟩ := hu
  obtain ⟨h1, h2⟩ := h.span hi hl
  refine BinSays.int fun w => ⟨.int k (k.wrap (1 + ((l.room : Int) - if true = true then 1 else 0))), ?_, l, hl, ?_⟩
  · simp [binOp, Op.intArith]
  · rw [show (1 + ((l.room : Int) - if true = true then 1 else 0)) = (l.room : Int) by simp; omega, wrap_small k (by omega) (by omega), perCell]
end
end Go.Proofs.YtbddollbjajcnaaGreat
