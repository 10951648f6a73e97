/- The evaluator: a step of a walk over a map: one outcome for each candidate. -/
import Derived.Test.YtbddollbjajcnaaGreatX17
namespace Go.Proofs.YtbddollbjajcnaaGreat
open Go
noncomputable section
set_option linter.unusedVariables false
set_option linter.unusedSimpArgs false
variable {P : Program}
def maxX : Int → Int → Option Int
  | .ofNat a, .ofNat b => some (.ofNat (bif Nat.blt a b then b else a))
  | _, _ => none
def minX : Int → Int → Option Int
  | .ofNat a, .ofNat b => some (.ofNat (bif Nat.blt b a then b else a))
  | _, _ => none
theorem blt_ite {a b : Nat} {A : Type} {x y : A} : (bif Nat.blt a b then x else y) = if a < b then x else y := by
  cases h : Nat.blt a b with
  | true => rw [if_pos (blt_lt h)]; rfl
  | false => rw [if_neg (fun q => by rw [show Nat.blt a b = true from Nat.ble_eq_true_of_le q] at h; cases h)]; rfl
theorem ok_max {o : Oper} {a : Act} {α : XM} {s : XS} {w : World} {f : XF} (h : HR α s w) (k : FR1 α f a) {y z : Operand} {tys : Array TypeId} (ho : o.op = .call ⟨.builtin .max, #[y, z], tys⟩) {q r : IntKind} {m n x : Int} (hy : evX f y = some (.one (.int q m))) (hz : evX f z = some (.one (.int r n))) (hx : maxX m n = some x) : OpOK P o a α s w (.one (.int q x)) s := by
  have h1 : a.eval y = .int q m := evX_ok k hy
  have h2 : a.eval z = .int r n := evX_ok k hz
  unfold maxX at hx
  split at hx
  · rename_i i j
    cases hx
    refine OpOK.pure (v := .int q (Int.ofNat (bif Nat.blt i j then j else i))) ?_ rfl h
    rw [run_builtin ho]
    rw [blt_ite]
    simp only [builtin, List.map_toArray, List.map_cons, List.map_nil, h1, h2, Builtin.max_, List.foldlM_cons, List.foldlM_nil, Builtin.max2, Sem.run_bind, Sem.run_pure, Result.andThen_ok]
    have e : (if Int.ofNat j > Int.ofNat i then Int.ofNat j else Int.ofNat i) = Int.ofNat (if i < j then j else i) := by
      by_cases c : i < j
      · rw [if_pos c, if_pos (by simp; omega)]
      · rw [if_neg c, if_neg (by simp; omega)]
    rw [← e]
  · cases hx
theorem ok_min {o : Oper} {a : Act} {α : XM} {s : XS} {w : World} {f : XF} (h : HR α s w) (k : FR1 α f a) {y z : Operand} {tys : Array TypeId} (ho : o.op = .call ⟨.builtin .min, #[y, z], tys⟩) {q r : IntKind} {m n x : Int} (hy : evX f y = some (.one (.int q m))) (hz : evX f z = some (.one (.int r n))) (hx : minX m n = some x) : OpOK P o a α s w (.one (.int q x)) s := by
  have h1 : a.eval y = .int q m := evX_ok k hy
  have h2 : a.eval z = .int r n := evX_ok k hz
  unfold minX at hx
  split at hx
  · rename_i i j
    cases hx
    refine OpOK.pure (v := .int q (Int.ofNat (bif Nat.blt j i then j else i))) ?_ rfl h
    rw [run_builtin ho]
    rw [blt_ite]
    simp only [builtin, List.map_toArray, List.map_cons, List.map_nil, h1, h2, Builtin.min_, List.foldlM_cons, List.foldlM_nil, Builtin.min2, Sem.run_bind, Sem.run_pure, Result.andThen_ok]
    have e : (if Int.ofNat j < Int.ofNat i then Int.ofNat j else Int.ofNat i) = Int.ofNat (if j < i then j else i) := by
      by_cases c : j < i
      · rw [if_pos c, if_pos (by simp; omega)]
      · rw [if_neg c, if_neg (by simp; omega)]
    rw [← e]
  · cases hx
theorem ok_index {o : Oper} {a : Act} {α : XM} {s : XS} {w : World} {f : XF} (h : HR α s w) (k : FR1 α f a) {t : TypeId} {y z : Operand} (ho : o.op = .index t y z) (hu : P.underlying t = some .string) {b : ByteArray} {d : XV} (hy : evX f y = some (.one (.str b))) (hz : evX f z = some d) {i : Nat} (hi : idxX d = some i) {c : UInt8} (hc : b[i]? = some c) : OpOK P o a α s w (.one (.int .u8 (Int.ofNat c.toNat))) s := by
  have h1 : a.eval y = .string b := evX_ok k hy
  obtain ⟨kk, h2⟩ := idxX_ok hi (evX_ok k hz)
  refine OpOK.pure (v := .int .u8 (Int.ofNat c.toNat)) ?_ rfl h
  simp [execOp, ho, h1, h2, Instr.index, asIntOf, run_underlying hu, hc]
end
end Go.Proofs.YtbddollbjajcnaaGreat
namespace Go.Proofs.YtbddollbjajcnaaGreat
open Go
noncomputable section
set_option linter.unusedVariables false
set_option linter.unusedSimpArgs false
variable {P : Program}
theorem run_choose_map {n : Nat} (hn : 0 < n) (w : World) : ∃ r w', (choose (.mapNext n)).run P w = .ok r w' ∧ r < n ∧ (w' = w ∨ w' = w.drew) := by
  by_cases h : n ≤ 1
  · exact ⟨0, w, by simp [choose, Sem.run, Question.forced, h], hn, .inl rfl⟩
  · refine ⟨_, w.drew, by simp [choose, Sem.run, Question.forced, h]; rfl, ?_, .inr rfl⟩
    exact Nat.mod_lt _ hn
theorem F2.filter {A B : Type} {R : A → B → Prop} {p : A → Bool} {q : B → Bool} (hpq : ∀ a b, R a b → p a = q b) : ∀ {l : List A} {m : List B}, F2 R l m → F2 R (l.filter p) (m.filter q)
  | [], _, .nil => .nil
  | a :: l, b :: m, .cons h t => by
    have ih := F2.filter hpq t
    rw [List.filter_cons, List.filter_cons, hpq a b h]
    split
    · exact .cons h ih
    · exact ih
def memN (n : Nat) : List Nat → Bool
  | [] => false
  | m :: l => bif Nat.beq m n then true else memN n l
theorem memN_ok {n : Nat} : ∀ {l : List Nat}, memN n l = l.contains n
  | [] => rfl
  | m :: l => by
    unfold memN
    rw [List.contains_cons, memN_ok (l := l)]
    cases h : Nat.beq m n with
    | true =>
      have := Nat.eq_of_beq_eq_true h
      subst this
      simp
    | false =>
      have := Nat.ne_of_beq_eq_false h
      simp [Ne.symm this]
end
end Go.Proofs.YtbddollbjajcnaaGreat
