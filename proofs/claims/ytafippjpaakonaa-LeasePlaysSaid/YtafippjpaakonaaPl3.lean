/- The plain law of leases, for LeaseExclusive, LeaseFull and LeaseTokens. -/
import Derived.Test.YtafippjpaakonaaPl2
namespace Go.Proofs.Ytafippjpaakonaa
set_option linter.unusedSimpArgs false
set_option linter.unusedVariables false

theorem timely_in {now d : Int} (h : timely now d = true) : -1099511627776 ≤ now ∧ now ≤ 1099511627776 ∧ 1 ≤ d ∧ d ≤ 1099511627776 := by
  unfold timely Top at h
  simp only [Bool.and_eq_true, decide_eq_true_eq] at h
  exact ⟨h.1.1.1, h.1.1.2, h.1.2, h.2⟩
/-- somebody else asks before the lease's end -/
theorem law_before {x : Tb} {y : Ls} {n o later d : Int} (h : x.ok = true) (hl : look n x.ls = some y) (ht : later < y.till) :
    ∃ e, acq cds x n o later d = (.zero, 0, e) ∧ (e = 1 ∨ e = 11) := by
  unfold acq
  rw [h, hl]
  cases timely later d with
  | false => exact ⟨1, rfl, .inl rfl⟩
  | true =>
    refine ⟨11, ?_, .inr rfl⟩
    simp only [Bool.not_true, Bool.or_self, Bool.false_eq_true, if_false]
    rw [if_pos ht]
/-- somebody else asks at the lease's end -/
theorem law_after {x : Tb} {y : Ls} {n o t d : Int} (h : x.ok = true) (hl : look n x.ls = some y) (ht : ¬ t < y.till) :
    (∃ e, acq cds x n o t d = (.zero, 0, e) ∧ (e = 1 ∨ e = 8)) ∨ (timely t d = true ∧ acq cds x n o t d = (⟨x.next + 1, ins ⟨n, o, x.next, t + d⟩ x.ls⟩, x.next, 0)) := by
  unfold acq
  rw [h, hl]
  cases timely t d with
  | false => exact .inl ⟨1, rfl, .inl rfl⟩
  | true =>
    simp only [Bool.not_true, Bool.or_self, Bool.false_eq_true, if_false]
    rw [if_neg ht]
    by_cases hf : x.next = Top
    · rw [if_pos hf]; exact .inl ⟨8, rfl, .inr rfl⟩
    · rw [if_neg hf]; exact .inr ⟨trivial, rfl⟩
theorem ren_lost {x : Tb} {y : Ls} {n h k now d : Int} (hx : x.ok = true) (hl : look n x.ls = some y) (ht : timely now d = true) (hk : y.token ≠ k) : ren cds x n h k now d = (.zero, 102) := by
  unfold ren
  rw [hx, hl, ht]
  simp only [Bool.not_true, Bool.or_self, Bool.false_eq_true, if_false]
  rw [if_neg (fun e => hk e.2.1)]
theorem rel_lost {x : Tb} {y : Ls} {n h k : Int} (hx : x.ok = true) (hl : look n x.ls = some y) (hk : y.token ≠ k) : rel cds x n h k = (.zero, 102) := by
  unfold rel
  rw [hx, hl]
  simp only [Bool.not_true, Bool.or_self, Bool.false_eq_true, if_false]
  rw [if_neg (fun e => hk e.2)]
theorem fnd_late {t : Tb} (h : t.ok = true) {x : Ls} {n now : Int} (e : look n t.ls = some x) (hx : ¬ now < x.till) : fnd t n now = (.zero, false) := by
  unfold fnd
  rw [h, e]
  simp only [Bool.not_true, Bool.false_eq_true, if_false]
  exact if_neg hx
/-- the table behind a lease that was given -/
theorem acq_given {t : Tb} {n h now d : Int} (he : (acq cds t n h now d).2.2 = 0) : ∃ x : Tb, acq cds t n h now d = (x, t.next, 0) ∧ x.next = t.next + 1 ∧ x.ok = true ∧ x.ls.length ≤ 65 ∧ look n x.ls = some ⟨n, h, t.next, now + d⟩ ∧ (-1099511627776 ≤ now ∧ now ≤ 1099511627776 ∧ 1 ≤ d ∧ d ≤ 1099511627776) := by
  obtain ⟨h1, h2, h3, h4, h5, h6⟩ := acq_zero he
  have hk := acq_okk he
  have hl := acq_len t n h now d
  rw [h6] at hk hl
  refine ⟨_, h6, rfl, hk, hl, ?_, timely_in h2⟩
  dsimp only
  rw [look_ins]
  exact if_pos rfl
/-- LeaseFull's table behind i leases -/
def full (i : Nat) : Tb := ⟨i + 1, (List.range i).map fun k : Nat => ⟨7 * (k : Int), 1, (k : Int) + 1, 5⟩⟩
theorem full_zero : full 0 = ⟨1, []⟩ := rfl
theorem full_step : ∀ i : Fin 64, acq cds (full i.val) (7 * (i.val : Int)) 1 0 5 = (full (i.val + 1), (i.val : Int) + 1, 0) := by decide +kernel
theorem full_last : acq cds (full 64) (-1) 1 9 5 = (.zero, 0, 8) := by decide +kernel
theorem full_again : ∀ k : Fin 64, acq cds (full 64) (7 * (k.val : Int)) 2 9 5 = (⟨66, (acq cds (full 64) (7 * (k.val : Int)) 2 9 5).1.ls⟩, 65, 0) ∧ (acq cds (full 64) (7 * (k.val : Int)) 2 9 5).1.ls.length = 64 ∧ (acq cds (expd ⟨66, (acq cds (full 64) (7 * (k.val : Int)) 2 9 5).1.ls⟩ 9) (-1) 1 9 5).2.2 = 0 := by decide +kernel
theorem full_len : ∀ i : Fin 65, (full i.val).ls.length ≤ 1000000 := by decide +kernel
/-- LeaseTokens: tokens ascend -/
theorem tok_next {t : Tb} {n h now d last : Int} (hl : last < t.next) (he : (acq cds t n h now d).2.2 = 0) : last < (acq cds t n h now d).2.1 ∧ (acq cds t n h now d).2.1 < (acq cds t n h now d).1.next := by
  rw [(acq_zero he).2.2.2.2.2]
  exact ⟨hl, by show t.next < t.next + 1; omega⟩
theorem ren_next {t : Tb} {n h k now d : Int} (he : (ren cds t n h k now d).2 = 0) : (ren cds t n h k now d).1.next = t.next := by
  obtain ⟨_, _, x, _, _, _, _, e⟩ := ren_zero he
  rw [e]
theorem rel_next {t : Tb} {n h k : Int} (he : (rel cds t n h k).2 = 0) : (rel cds t n h k).1.next = t.next := by rw [(rel_zero he).2]
theorem exp_next {t : Tb} (h : t.ok = true) (now : Int) : (expd t now).next = t.next := by rw [expd_eq h]
end Go.Proofs.Ytafippjpaakonaa
