/- What reading means: parsers on lists of bytes; a reader's state in memory. -/
import Derived.Test.YtkeiffccllfkpaaOps
import Derived.Test.YtkeiffccllfkpaaInts
namespace Go.Proofs.Ytkeiffccllfkpaa
open Go.RowKit

/-- the error codes: 100 short, 1 invalid -/
abbrev Parser (α : Type) := List Nat → Except Nat (α × List Nat)
def unzig (x : Nat) : Int := if x % 2 = 1 then -(x / 2 : Nat) - 1 else (x / 2 : Nat)
def rdI : List Nat → Nat → Nat → Except Nat (Nat × List Nat)
  | [], _, _ => .error 100
  | c :: l, i, x => if (i = 9 ∧ 1 < c) ∨ (0 < i ∧ c = 0) then .error 1 else if c < 128 then .ok (x + c % 128 * 2 ^ (7 * i), l) else rdI l (i + 1) (x + c % 128 * 2 ^ (7 * i))
def pInt : Parser Int := fun l => match rdI l 0 0 with
  | .ok (x, r) => .ok (unzig x, r)
  | .error e => .error e
def pIntIn (a b : Int) : Parser Int := fun l => match pInt l with
  | .ok (n, r) => if n < a ∨ b < n then .error 1 else .ok (n, r)
  | .error e => .error e
def pBytes (n : Nat) : Parser (List Nat) := fun l => if n ≤ l.length then .ok (l.take n, l.drop n) else .error 100
def pBind {α β : Type} (p : Parser α) (q : α → Parser β) : Parser β := fun l => match p l with
  | .ok (x, r) => q x r
  | .error e => .error e
def pPure {α : Type} (x : α) : Parser α := fun l => .ok (x, l)

/-- the state of a reader: what is left, or the error -/
abbrev St := Except Nat (List Nat)
/-- from state s the parser reads x and leaves s' (x is anything where it fails) -/
def Rel {α : Type} (p : Parser α) (s : St) (x : α) (s' : St) : Prop :=
  match s with
  | .error e => s' = .error e
  | .ok l => match p l with
    | .ok (y, r) => y = x ∧ s' = .ok r
    | .error e => s' = .error e
theorem Rel.bind {α β : Type} {p : Parser α} {q : α → Parser β} {s s1 s2 : St} {x : α} {y : β} (h : Rel p s x s1) (k : Rel (q x) s1 y s2) : Rel (pBind p q) s y s2 := by
  unfold Rel pBind at *
  cases s with
  | error e => simp only at h; subst h; exact k
  | ok l =>
    simp only at h ⊢
    cases hp : p l with
    | error e => rw [hp] at h; simp only at h ⊢; subst h; exact k
    | ok r => rw [hp] at h; obtain ⟨y', r⟩ := r; simp only at h ⊢; obtain ⟨rfl, rfl⟩ := h; exact k
theorem Rel.pure {α : Type} (x : α) (s : St) : Rel (pPure x) s x s := by
  unfold Rel pPure
  cases s <;> simp
theorem Rel.map {α β : Type} {p : Parser α} {s s1 : St} {x : α} (f : α → β) (h : Rel p s x s1) : Rel (pBind p fun a => pPure (f a)) s (f x) s1 := h.bind (Rel.pure _ _)
/-- where it went well -/
theorem Rel.ok {α : Type} {p : Parser α} {l r : List Nat} {x : α} (h : Rel p (.ok l) x (.ok r)) : p l = .ok (x, r) := by
  unfold Rel at h
  simp only at h
  cases hp : p l with
  | error e => rw [hp] at h; cases h
  | ok y => rw [hp] at h; obtain ⟨y, r'⟩ := y; simp only at h; obtain ⟨rfl, h⟩ := h; cases h; rfl
theorem Rel.err {α : Type} {p : Parser α} {l : List Nat} {e : Nat} {x : α} (h : Rel p (.ok l) x (.error e)) : p l = .error e := by
  unfold Rel at h
  simp only at h
  cases hp : p l with
  | error e => rw [hp] at h; cases h; rfl
  | ok y => rw [hp] at h; obtain ⟨y, r'⟩ := y; simp only at h; cases h.2
theorem Rel.of_ok {α : Type} {p : Parser α} {l r : List Nat} {x : α} (h : p l = .ok (x, r)) : Rel p (.ok l) x (.ok r) := by unfold Rel; simp [h]
theorem Rel.of_err {α : Type} {p : Parser α} {l : List Nat} {e : Nat} {x : α} (h : p l = .error e) : Rel p (.ok l) x (.error e) := by unfold Rel; simp [h]
theorem Rel.dead {α : Type} {p : Parser α} {e : Nat} {x : α} {s : St} (h : Rel p (.error e) x s) : s = .error e := h

/-- what v reads lies below R -/
def Lo (v : Value) (R : Nat) : Prop := ∀ k, v.ownBlock = some k → k < R
theorem Lo.ne {v : Value} {R B : Nat} (h : Lo v R) (hB : R ≤ B) : v.ownBlock ≠ some B := fun e => by have := h _ e; omega
theorem Lo.of_eq {v v' : Value} {R : Nat} (e : v.ownBlock = v'.ownBlock) (h : Lo v' R) : Lo v R := fun k hk => h k (e ▸ hk)
theorem Lo.mono {v : Value} {R R' : Nat} (h : Lo v R) (hr : R ≤ R') : Lo v R' := fun k hk => Nat.lt_of_lt_of_le (h k hk) hr
def LoR (v : Value) (L R : Nat) : Prop := Lo v L ∧ L ≤ R
theorem LoR.ne {v : Value} {L R B : Nat} (h : LoR v L R) (hB : R ≤ B) : v.ownBlock ≠ some B := h.1.ne (Nat.le_trans h.2 hB)
theorem LoR.of_eq {v v' : Value} {L R : Nat} (e : v.ownBlock = v'.ownBlock) (h : LoR v' L R) : LoR v L R := ⟨h.1.of_eq e, h.2⟩
/-- the reader in block R, of type T; what it reads lies below L -/
def RSt (T : TypeId) (L : Nat) (w : World) (R : Nat) (s : St) : Prop :=
  ∃ v l, (match s with
    | .ok r => r = l ∧ w.heap[R]? = some (.cells #[v, .int .i64 0] T (0, 0))
    | .error e => e ≠ 0 ∧ e ≤ 200 ∧ w.heap[R]? = some (.cells #[v, .int .i64 e] T (0, 0))) ∧
  Sl w 1 v l.length (bv l) ∧ LoR v L R ∧ (∀ b ∈ l, b < 256) ∧ l.length ≤ 1099511627776
theorem RSt.kept {T : TypeId} {L : Nat} {w w' : World} {R : Nat} {s : St} (h : RSt T L w R s) (hg : w.grownBy w' none) : RSt T L w' R s := by
  obtain ⟨v, l, h1, h2, h3, h4⟩ := h
  refine ⟨v, l, ?_, h2.kept hg (by cases hv : v.ownBlock <;> simp), h3, h4⟩
  cases s with
  | ok r => exact ⟨h1.1, by rw [hg.block R (Array.getElem?_eq_some_iff.1 h1.2).1 (by simp)]; exact h1.2⟩
  | error e => exact ⟨h1.1, h1.2.1, by rw [hg.block R (Array.getElem?_eq_some_iff.1 h1.2.2).1 (by simp)]; exact h1.2.2⟩
/-- the same where another block, behind the reader's, was written -/
theorem RSt.past {T : TypeId} {L : Nat} {w w' : World} {R B : Nat} {s : St} (h : RSt T L w R s) (hg : w.grownBy w' (some B)) (hB : R < B) : RSt T L w' R s := by
  obtain ⟨v, l, h1, h2, h3, h4⟩ := h
  have hne : some R ≠ some B := by simp; omega
  refine ⟨v, l, ?_, h2.kept hg (.inr (h3.ne (by omega))), h3, h4⟩
  cases s with
  | ok r => exact ⟨h1.1, by rw [hg.block R (Array.getElem?_eq_some_iff.1 h1.2).1 hne]; exact h1.2⟩
  | error e => exact ⟨h1.1, h1.2.1, by rw [hg.block R (Array.getElem?_eq_some_iff.1 h1.2.2).1 hne]; exact h1.2.2⟩

theorem rdI_bound : ∀ (l : List Nat) (i x : Nat), i ≤ 9 → x < 2 ^ (7 * i) → (∀ b ∈ l, b < 256) → ∀ y r, rdI l i x = .ok (y, r) → y < 18446744073709551616
  | [], i, x, _, _, _, y, r, h => by simp [rdI] at h
  | c :: l, i, x, hi, hx, hb, y, r, h => by
    unfold rdI at h
    split at h
    · cases h
    · rename_i hc
      have hc256 := hb c List.mem_cons_self
      have hstep : x + c % 128 * 2 ^ (7 * i) < 2 ^ (7 * (i + 1)) := by
        have h1 : c % 128 ≤ 127 := by omega
        have h2 : c % 128 * 2 ^ (7 * i) ≤ 127 * 2 ^ (7 * i) := Nat.mul_le_mul_right _ h1
        have h3 : 2 ^ (7 * (i + 1)) = 128 * 2 ^ (7 * i) := by rw [show 7 * (i + 1) = 7 + 7 * i by omega, Nat.pow_add]
        omega
      split at h
      · simp only [Except.ok.injEq, Prod.mk.injEq] at h
        obtain ⟨rfl, rfl⟩ := h
        by_cases h9 : i = 9
        · subst h9
          have : c % 128 ≤ 1 := by omega
          have h2 : c % 128 * 2 ^ (7 * 9) ≤ 1 * 2 ^ (7 * 9) := Nat.mul_le_mul_right _ this
          have h3 : (2 : Nat) ^ (7 * 9) = 9223372036854775808 := by decide
          omega
        · have h4 : 2 ^ (7 * (i + 1)) ≤ 2 ^ (7 * 9) := Nat.pow_le_pow_right (by decide) (by omega)
          have h3 : (2 : Nat) ^ (7 * 9) = 9223372036854775808 := by decide
          omega
      · refine rdI_bound l (i + 1) _ (by omega) hstep (fun b hb' => hb b (List.mem_cons_of_mem _ hb')) y r h
theorem pInt_range {l : List Nat} (hb : ∀ b ∈ l, b < 256) {n : Int} {r : List Nat} (h : pInt l = .ok (n, r)) : -9223372036854775808 ≤ n ∧ n ≤ 9223372036854775807 := by
  unfold pInt at h
  cases hr : rdI l 0 0 with
  | error e => rw [hr] at h; cases h
  | ok y =>
    obtain ⟨y, r'⟩ := y
    rw [hr] at h
    simp only [Except.ok.injEq, Prod.mk.injEq] at h
    obtain ⟨rfl, rfl⟩ := h
    have := rdI_bound l 0 0 (by omega) (by decide) hb y r' hr
    unfold unzig
    split <;> omega
theorem rdI_step (x i : Nat) (hi : i ≤ 9) (hx : x < 2 ^ (7 * i)) (c : Nat) (hc : c < 256) (hok : ¬ ((i = 9 ∧ 1 < c) ∨ (0 < i ∧ c = 0))) : x ||| c % 128 * 2 ^ (7 * i) = x + c % 128 * 2 ^ (7 * i) ∧ x + c % 128 * 2 ^ (7 * i) < 18446744073709551616 ∧ c % 128 * 2 ^ (7 * i) < 18446744073709551616 ∧ x < 18446744073709551616 ∧ (¬ c < 128 → i ≤ 8 ∧ x + c % 128 * 2 ^ (7 * i) < 2 ^ (7 * (i + 1))) := by
  have hstep : x + c % 128 * 2 ^ (7 * i) < 2 ^ (7 * (i + 1)) := by
    have h1 : c % 128 ≤ 127 := by omega
    have h2 : c % 128 * 2 ^ (7 * i) ≤ 127 * 2 ^ (7 * i) := Nat.mul_le_mul_right _ h1
    have h3 : 2 ^ (7 * (i + 1)) = 128 * 2 ^ (7 * i) := by rw [show 7 * (i + 1) = 7 + 7 * i by omega, Nat.pow_add]
    omega
  have h64 : x + c % 128 * 2 ^ (7 * i) < 18446744073709551616 := by
    by_cases h9 : i = 9
    · subst h9
      have : c % 128 ≤ 1 := by omega
      have h2 : c % 128 * 2 ^ (7 * 9) ≤ 1 * 2 ^ (7 * 9) := Nat.mul_le_mul_right _ this
      have h3 : (2 : Nat) ^ (7 * 9) = 9223372036854775808 := by decide
      omega
    · have h4 : 2 ^ (7 * (i + 1)) ≤ 2 ^ (7 * 9) := Nat.pow_le_pow_right (by decide) (by omega)
      have h3 : (2 : Nat) ^ (7 * 9) = 9223372036854775808 := by decide
      omega
  refine ⟨?_, h64, by omega, by omega, fun h => ⟨by omega, hstep⟩⟩
  rw [Nat.or_comm, nat_join (7 * i) _ x (Nat.mul_mod_left _ _) hx, Nat.add_comm]
end Go.Proofs.Ytkeiffccllfkpaa
