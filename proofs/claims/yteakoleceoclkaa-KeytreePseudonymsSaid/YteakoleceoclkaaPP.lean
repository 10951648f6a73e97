/- Key trees, the plain law. (joined out of parts/P1 .. P11 by mergep.py) -/
import Derived.Test.YteakoleceoclkaaMK2
namespace Go.Proofs.Yteakoleceoclkaa
open Go.RowKit Go.Shelf
set_option linter.unusedSimpArgs false
set_option linter.unusedVariables false

/-! P1 -/
theorem two_pos (k : Nat) : (0 : Int) < 2 ^ k := Int.pow_pos (by decide)
theorem span_ok {n : Nd} (h : okN n = true) : span n = (lo n, hi n) := by unfold span; rw [if_pos h]
theorem lo_lt_hi (n : Nd) : lo n < hi n := by
  have h := two_pos (34 - n.d).toNat
  unfold lo hi
  rw [Int.add_mul]
  omega
theorem lo_nonneg {n : Nd} (h : okN n = true) : 0 ≤ lo n := by
  obtain ⟨_, _, h3, _⟩ := okN_iff.1 h
  exact Int.mul_nonneg h3 (Int.le_of_lt (two_pos _))
theorem hi_le {n : Nd} (h : okN n = true) : hi n ≤ 17179869184 := by
  obtain ⟨h1, h2, h3, h4⟩ := okN_iff.1 h
  unfold hi
  have h5 : (n.p + 1) * 2 ^ (34 - n.d).toNat ≤ 2 ^ n.d.toNat * 2 ^ (34 - n.d).toNat := Int.mul_le_mul_of_nonneg_right (by omega) (Int.le_of_lt (two_pos _))
  rw [← Int.pow_add, show n.d.toNat + (34 - n.d).toNat = 34 by omega] at h5
  have e : (2 : Int) ^ 34 = 17179869184 := by decide
  omega
theorem span_ne {n : Nd} (h : span n ≠ (0, 0)) : okN n = true := by
  unfold span at h
  by_cases ho : okN n = true
  · exact ho
  · rw [if_neg ho] at h; exact absurd rfl h
theorem stp_some {c d : Int} {n : Nd} (h : stp c n = some d) : okN n = true ∧ c ≤ lo n ∧ d = hi n := by
  unfold stp at h
  split at h
  · cases h
  · rename_i hs
    have ho := span_ne hs
    rw [span_ok ho] at h
    simp only at h
    split at h
    · cases h
    · cases h
      exact ⟨ho, by omega, rfl⟩
theorem stp_ok {c : Int} {n : Nd} (ho : okN n = true) (hc : c ≤ lo n) (h0 : 0 ≤ c) : stp c n = some (hi n) := by
  have h1 := lo_lt_hi n
  unfold stp
  rw [span_ok ho, if_neg (by intro e; simp only [Prod.mk.injEq] at e; omega)]
  simp only
  rw [if_neg (by omega)]
theorem run_all {c e : Int} {l : List Nd} (h : run c l = some e) : ∀ n ∈ l, okN n = true ∧ c ≤ lo n := by
  induction l generalizing c with
  | nil => intro n hn; cases hn
  | cons x l ih =>
    simp only [run] at h
    cases hs : stp c x with
    | none => rw [hs] at h; cases h
    | some d =>
      rw [hs] at h
      obtain ⟨h1, h2, h3⟩ := stp_some hs
      have := lo_lt_hi x
      intro n hn
      rcases List.mem_cons.1 hn with rfl | hn
      · exact ⟨h1, h2⟩
      · obtain ⟨h4, h5⟩ := ih h n hn
        exact ⟨h4, by omega⟩
/-- the nodes of a valid list lie apart and in order -/
theorem run_pairwise {c e : Int} {l : List Nd} (h : run c l = some e) : l.Pairwise fun n m => hi n ≤ lo m := by
  induction l generalizing c with
  | nil => exact List.Pairwise.nil
  | cons x l ih =>
    simp only [run] at h
    cases hs : stp c x with
    | none => rw [hs] at h; cases h
    | some d =>
      rw [hs] at h
      obtain ⟨h1, h2, h3⟩ := stp_some hs
      subst h3
      exact List.Pairwise.cons (fun m hm => (run_all h m hm).2) (ih h)
theorem hasA_cov {a : Int} {n : Nd} (h : okN n = true) : hasA a n = cov n a := by
  have hq := two_pos (34 - n.d).toNat
  unfold hasA cov
  rw [span_ok h]
  unfold lo hi
  have e1 := Int.le_ediv_iff_mul_le (a := n.p) (b := a) hq
  have e2 := Int.ediv_lt_iff_lt_mul (a := a) (b := n.p + 1) hq
  rw [← Bool.decide_and]
  simp only [decide_eq_decide]
  constructor
  · rintro ⟨h1, h2⟩
    have := e1.2 h1
    have := e2.2 h2
    omega
  · intro h1
    exact ⟨e1.1 (by omega), e2.1 (by omega)⟩
theorem vld_run {l : List Nd} (h : vld l = true) : l.length ≤ 32768 ∧ ∃ e, run 0 l = some e := by
  unfold vld at h
  simp only [Bool.and_eq_true, decide_eq_true_eq] at h
  exact ⟨h.1, Option.isSome_iff_exists.1 h.2⟩
/-! P2 -/
theorem half_div (a : Int) {n : Nd} (hd : n.d ≤ 33) : a / 2 ^ (34 - n.d).toNat = a / 2 ^ (33 - n.d).toNat / 2 := by
  rw [show (34 - n.d).toNat = (33 - n.d).toNat + 1 by omega, Int.pow_succ, Int.ediv_ediv_of_nonneg (Int.le_of_lt (two_pos _))]
theorem cov_child {a : Int} {n : Nd} {r : Bool} (hd : n.d ≤ 33) : cov (child n r) a = decide (a / 2 ^ (33 - n.d).toNat = 2 * n.p + if r then 1 else 0) := by
  unfold cov child
  simp only
  rw [show (34 - (n.d + 1)).toNat = (33 - n.d).toNat by omega]
theorem cov_half {a : Int} {n : Nd} (hd : n.d ≤ 33) : cov n a = decide (a / 2 ^ (33 - n.d).toNat / 2 = n.p) := by
  unfold cov
  rw [half_div a hd]
theorem cov_of_child {a : Int} {n : Nd} {r : Bool} (hd : n.d ≤ 33) (h : cov (child n r) a = true) : cov n a = true := by
  rw [cov_child hd] at h
  rw [cov_half hd]
  simp only [decide_eq_true_eq] at h ⊢
  cases r <;> simp at h <;> omega
theorem cov_bit {a : Int} {n : Nd} {r : Bool} (hd : n.d ≤ 33) (h : cov n a = true) : cov (child n r) a = (r == bit n a) := by
  rw [cov_half hd] at h
  rw [cov_child hd]
  unfold bit
  simp only [decide_eq_true_eq] at h
  generalize a / 2 ^ (33 - n.d).toNat = x at *
  have h2 : x % 2 = 0 ∨ x % 2 = 1 := by omega
  cases r <;> rcases h2 with h2 | h2 <;> simp [h2] <;> omega
/-- some member lies under a node -/
def hit (S : List Int) (n : Nd) : Bool := S.any fun a => cov n a
theorem hit_child {S : List Int} {n : Nd} {r : Bool} (hd : n.d ≤ 33) (h : hit S n = false) : hit S (child n r) = false := by
  unfold hit at h ⊢
  rw [List.any_eq_false] at h ⊢
  exact fun a ha hc => h a ha (cov_of_child hd hc)
/-- the cover of the addresses under a node, the members of S left out -/
def cover (S : List Int) : Nat → Nd → List Nd
  | 0, n => if hit S n then [] else [n]
  | k + 1, n => if hit S n then cover S k (child n false) ++ cover S k (child n true) else [n]
/-- the nodes that cover what lies under a node, one address left out -/
def oth (a : Int) : Nat → Nd → List Nd
  | 0, _ => []
  | k + 1, n => if bit n a then child n false :: oth a k (child n true) else oth a k (child n false) ++ [child n true]
def pun (a : Int) (l : List Nd) : List Nd := l.flatMap fun n => if cov n a then oth a (34 - n.d).toNat n else [n]
theorem cover_free {S : List Int} {n : Nd} (k : Nat) (h : hit S n = false) : cover S k n = [n] := by
  cases k <;> simp [cover, h]
theorem hit_cons (a : Int) (S : List Int) (n : Nd) : hit (a :: S) n = (cov n a || hit S n) := by simp [hit]
theorem oth_cover {S : List Int} {a : Int} (k : Nat) : ∀ n : Nd, n.d = 34 - k → hit S n = false → cov n a = true → oth a k n = cover (a :: S) k n := by
  induction k with
  | zero => intro n hd hs hc; simp [oth, cover, hit_cons, hc]
  | succ k ih =>
    intro n hd hs hc
    have h33 : n.d ≤ 33 := by omega
    have c0 := cov_bit (r := false) h33 hc
    have c1 := cov_bit (r := true) h33 hc
    have s0 := hit_child (r := false) h33 hs
    have s1 := hit_child (r := true) h33 hs
    have d0 : ∀ r, (child n r).d = 34 - (k : Int) := fun r => by simp [child]; omega
    simp only [oth, cover, hit_cons, hc, Bool.true_or, if_true]
    cases hb : bit n a with
    | true =>
      rw [hb] at c0 c1
      simp only [if_true]
      rw [ih _ (d0 true) s1 (by rw [c1]; rfl), cover_free k (n := child n false) (by rw [hit_cons, c0, s0]; rfl)]
      rfl
    | false =>
      rw [hb] at c0 c1
      simp only [Bool.false_eq_true, if_false]
      rw [ih _ (d0 false) s0 (by rw [c0]; rfl), cover_free k (n := child n true) (by rw [hit_cons, c1, s1]; rfl)]
/-- A PUNCTURE OF A COVER IS THE COVER WITH ONE MEMBER MORE -/
theorem pun_cover {S : List Int} {a : Int} (k : Nat) : ∀ n : Nd, n.d = 34 - k → pun a (cover S k n) = cover (a :: S) k n := by
  induction k with
  | zero =>
    intro n hd
    cases hs : hit S n with
    | true => simp [cover, hs, hit_cons, pun]
    | false =>
      rw [cover_free 0 hs]
      cases hc : cov n a with
      | true => simp [pun, hc, hd, cover, hit_cons, oth]
      | false => simp [pun, hc, cover, hit_cons, hs]
  | succ k ih =>
    intro n hd
    cases hs : hit S n with
    | true =>
      have d0 : ∀ r, (child n r).d = 34 - (k : Int) := fun r => by simp [child]; omega
      have h0 := ih _ (d0 false)
      have h1 := ih _ (d0 true)
      simp only [cover, hs, hit_cons, Bool.or_true, if_true]
      rw [← h0, ← h1]
      simp [pun]
    | false =>
      rw [cover_free _ hs]
      cases hc : cov n a with
      | true =>
        rw [← oth_cover (k + 1) n hd hs hc]
        simp only [pun, List.flatMap_cons, List.flatMap_nil, hc, if_true, List.append_nil]
        rw [show (34 - n.d).toNat = k + 1 by omega]
      | false =>
        rw [cover_free _ (by rw [hit_cons, hc, hs]; rfl)]
        simp [pun, hc]
/-! P3 -/
theorem hit_congr {S T : List Int} (h : ∀ a, a ∈ S ↔ a ∈ T) (n : Nd) : hit S n = hit T n := by
  unfold hit
  rw [Bool.eq_iff_iff, List.any_eq_true, List.any_eq_true]
  exact ⟨fun ⟨a, h1, h2⟩ => ⟨a, (h a).1 h1, h2⟩, fun ⟨a, h1, h2⟩ => ⟨a, (h a).2 h1, h2⟩⟩
/-- THE ORDER OF THE MEMBERS, AND HOW OFTEN EACH STANDS THERE, DOES NOT MATTER -/
theorem cover_congr {S T : List Int} (h : ∀ a, a ∈ S ↔ a ∈ T) (k : Nat) : ∀ n : Nd, cover S k n = cover T k n := by
  induction k with
  | zero => intro n; simp only [cover, hit_congr h]
  | succ k ih => intro n; simp only [cover, hit_congr h, ih]
theorem cover_sub {S : List Int} {a : Int} (k : Nat) : ∀ n : Nd, n.d = 34 - k → ∀ m ∈ cover S k n, cov m a = true → cov n a = true := by
  induction k with
  | zero =>
    intro n hd m hm hc
    simp only [cover] at hm
    split at hm
    · cases hm
    · obtain rfl := List.mem_singleton.1 hm; exact hc
  | succ k ih =>
    intro n hd m hm hc
    have d0 : ∀ r, (child n r).d = 34 - (k : Int) := fun r => by simp [child]; omega
    simp only [cover] at hm
    split at hm
    · rcases List.mem_append.1 hm with hm | hm
      · exact cov_of_child (by omega) (ih _ (d0 false) m hm hc)
      · exact cov_of_child (by omega) (ih _ (d0 true) m hm hc)
    · obtain rfl := List.mem_singleton.1 hm; exact hc
/-- no node of a cover covers a member -/
theorem cover_out {S : List Int} {a : Int} (ha : a ∈ S) (k : Nat) : ∀ n : Nd, ∀ m ∈ cover S k n, cov m a = false := by
  induction k with
  | zero =>
    intro n m hm
    simp only [cover] at hm
    split at hm
    · cases hm
    · rename_i hs
      obtain rfl := List.mem_singleton.1 hm
      simp only [hit, Bool.not_eq_true, List.any_eq_false] at hs
      simpa using hs a ha
  | succ k ih =>
    intro n m hm
    simp only [cover] at hm
    split at hm
    · rcases List.mem_append.1 hm with hm | hm
      · exact ih _ m hm
      · exact ih _ m hm
    · rename_i hs
      obtain rfl := List.mem_singleton.1 hm
      simp only [hit, Bool.not_eq_true, List.any_eq_false] at hs
      simpa using hs a ha
theorem cover_find_none {S : List Int} {a : Int} (ha : a ∈ S) (k : Nat) (n : Nd) : (cover S k n).find? (fun m => cov m a) = none :=
  List.find?_eq_none.2 fun m hm => by rw [cover_out ha k n m hm]; simp
/-- the node that covers an address that is no member leads to the same leaf -/
theorem cover_find {S : List Int} {a : Int} (ha : a ∉ S) (k : Nat) : ∀ n : Nd, n.d = 34 - k → cov n a = true → ∃ m, (cover S k n).find? (fun m => cov m a) = some m ∧ desc a (34 - m.d).toNat m = desc a k n := by
  induction k with
  | zero =>
    intro n hd hc
    cases hs : hit S n with
    | false => exact ⟨n, by simp [cover, hs, hc], by rw [show (34 - n.d).toNat = 0 by omega]⟩
    | true =>
      unfold hit at hs
      obtain ⟨x, hx, hxc⟩ := List.any_eq_true.1 hs
      unfold cov at hc hxc
      rw [show (34 - n.d).toNat = 0 by omega] at hc hxc
      simp at hc hxc
      exact absurd (by rw [hc, ← hxc]; exact hx) ha
  | succ k ih =>
    intro n hd hc
    have d0 : ∀ r, (child n r).d = 34 - (k : Int) := fun r => by simp [child]; omega
    have c0 := cov_bit (r := false) (n := n) (by omega) hc
    have c1 := cov_bit (r := true) (n := n) (by omega) hc
    cases hs : hit S n with
    | false => exact ⟨n, by rw [cover_free _ hs]; simp [hc], by rw [show (34 - n.d).toNat = k + 1 by omega]⟩
    | true =>
      simp only [cover, hs, if_true, List.find?_append, desc]
      cases hb : bit n a with
      | false =>
        rw [hb] at c0
        obtain ⟨m, h1, h2⟩ := ih _ (d0 false) c0
        exact ⟨m, by rw [h1]; rfl, h2⟩
      | true =>
        rw [hb] at c0 c1
        obtain ⟨m, h1, h2⟩ := ih _ (d0 true) c1
        refine ⟨m, ?_, h2⟩
        rw [List.find?_eq_none.2 (fun x hx => by
          intro hxc
          have := cover_sub k _ (d0 false) x hx hxc
          rw [c0] at this
          cases this), h1]
        rfl
/-- how many members lie under a node -/
def cnt (S : List Int) (n : Nd) : Nat := (S.filter fun a => cov n a).length
theorem cnt_zero {S : List Int} {n : Nd} : cnt S n = 0 ↔ hit S n = false := by
  unfold cnt hit
  rw [List.length_eq_zero_iff, List.filter_eq_nil_iff, List.any_eq_false]
theorem cnt_child (S : List Int) {n : Nd} (hd : n.d ≤ 33) : cnt S (child n false) + cnt S (child n true) = cnt S n := by
  induction S with
  | nil => rfl
  | cons a S ih =>
    unfold cnt at ih ⊢
    simp only [List.filter_cons]
    cases hc : cov n a with
    | false =>
      have h0 : ∀ r, cov (child n r) a = false := fun r => by
        cases h : cov (child n r) a with
        | false => rfl
        | true => rw [cov_of_child hd h] at hc; cases hc
      simp only [h0, Bool.false_eq_true, if_false]
      exact ih
    | true =>
      have c0 := cov_bit (r := false) hd hc
      have c1 := cov_bit (r := true) hd hc
      cases hb : bit n a <;> rw [hb] at c0 c1 <;> simp [c0, c1] <;> omega
theorem cover_len {S : List Int} (k : Nat) : ∀ n : Nd, n.d = 34 - k → (cover S k n).length ≤ if cnt S n = 0 then 1 else k * cnt S n := by
  induction k with
  | zero =>
    intro n hd
    cases hs : hit S n with
    | false => rw [cover_free _ hs, if_pos (cnt_zero.2 hs)]; simp
    | true => simp [cover, hs]
  | succ k ih =>
    intro n hd
    have d0 : ∀ r, (child n r).d = 34 - (k : Int) := fun r => by simp [child]; omega
    cases hs : hit S n with
    | false => rw [cover_free _ hs, if_pos (cnt_zero.2 hs)]; simp
    | true =>
      have hz : cnt S n ≠ 0 := fun h => by rw [cnt_zero.1 h] at hs; cases hs
      have h0 := ih _ (d0 false)
      have h1 := ih _ (d0 true)
      have hc := cnt_child S (n := n) (by omega)
      rw [if_neg hz]
      simp only [cover, hs, if_true, List.length_append]
      rw [← hc] at hz ⊢
      generalize cnt S (child n false) = x at *
      generalize cnt S (child n true) = y at *
      rw [Nat.mul_add, Nat.succ_mul, Nat.succ_mul]
      split at h0 <;> split at h1
      · omega
      · subst_vars; omega
      · subst_vars; omega
      · omega
/-! P4 -/
theorem run_append (c : Int) (l m : List Nd) : run c (l ++ m) = (run c l).bind fun c => run c m := by
  induction l generalizing c with
  | nil => simp [run]
  | cons x l ih =>
    simp only [List.cons_append, run]
    cases stp c x with
    | none => rfl
    | some d => simp [ih]
theorem pow_half {n : Nd} (hd : n.d ≤ 33) : (2 : Int) ^ (34 - n.d).toNat = 2 * 2 ^ (33 - n.d).toNat := by
  rw [show (34 - n.d).toNat = (33 - n.d).toNat + 1 by omega, Int.pow_succ, Int.mul_comm]
theorem lo_child {n : Nd} (r : Bool) (hd : n.d ≤ 33) : lo (child n r) = lo n + (if r then 2 ^ (33 - n.d).toNat else 0) := by
  unfold lo child
  simp only
  rw [show (34 - (n.d + 1)).toNat = (33 - n.d).toNat by omega, pow_half hd, Int.add_mul]
  have e : n.p * (2 * 2 ^ (33 - n.d).toNat) = 2 * n.p * 2 ^ (33 - n.d).toNat := by rw [← Int.mul_assoc, Int.mul_comm n.p 2]
  rw [e]
  cases r <;> simp
theorem hi_lo (n : Nd) : hi n = lo n + 2 ^ (34 - n.d).toNat := by unfold hi lo; rw [Int.add_mul]; simp
theorem hi_child {n : Nd} (r : Bool) (hd : n.d ≤ 33) : hi (child n r) = lo n + (if r then 2 ^ (34 - n.d).toNat else 2 ^ (33 - n.d).toNat) := by
  rw [hi_lo, lo_child r hd]
  rw [show (34 - (child n r).d).toNat = (33 - n.d).toNat by simp [child]; omega, pow_half hd]
  cases r <;> simp <;> omega
/-- A COVER IS A VALID LIST (but for its length) -/
theorem cover_run {S : List Int} (k : Nat) : ∀ (n : Nd) (c : Int), n.d = 34 - k → okN n = true → 0 ≤ c → c ≤ lo n → ∃ e, run c (cover S k n) = some e ∧ c ≤ e ∧ e ≤ hi n := by
  induction k with
  | zero =>
    intro n c hd ho h0 hc
    have := lo_lt_hi n
    cases hs : hit S n with
    | false => exact ⟨hi n, by rw [cover_free _ hs]; simp [run, stp_ok ho hc h0], by omega, by omega⟩
    | true => exact ⟨c, by simp [cover, hs, run], by omega, by omega⟩
  | succ k ih =>
    intro n c hd ho h0 hc
    have := lo_lt_hi n
    have h33 : n.d ≤ 33 := by omega
    have d0 : ∀ r, (child n r).d = 34 - (k : Int) := fun r => by simp [child]; omega
    cases hs : hit S n with
    | false => exact ⟨hi n, by rw [cover_free _ hs]; simp [run, stp_ok ho hc h0], by omega, by omega⟩
    | true =>
      have l0 := lo_child (n := n) false h33
      have l1 := lo_child (n := n) true h33
      have e0 := hi_child (n := n) false h33
      have e1 := hi_child (n := n) true h33
      have hh := hi_lo n
      simp only [Bool.false_eq_true, if_false, if_true] at l0 l1 e0 e1
      obtain ⟨x, h1, h2, h3⟩ := ih _ c (d0 false) (okN_child false ho h33) h0 (by omega)
      obtain ⟨y, h4, h5, h6⟩ := ih _ x (d0 true) (okN_child true ho h33) (by omega) (by omega)
      refine ⟨y, ?_, by omega, by omega⟩
      simp only [cover, hs, if_true, run_append, h1]
      exact h4
/-- the root of a tree -/
def root (k : List Nat) : Nd := ⟨0, 0, k⟩
theorem okN_root (k : List Nat) : okN (root k) = true := by rw [okN_iff]; simp [root]
theorem cov_root {a : Int} (k : List Nat) (h : isAddr a = true) : cov (root k) a = true := by
  unfold isAddr at h
  simp only [Bool.and_eq_true, decide_eq_true_eq] at h
  unfold cov root
  simp only [Int.sub_zero, decide_eq_true_eq]
  have e : (2 : Int) ^ (34 : Int).toNat = 17179869184 := by decide
  rw [e]
  omega
/-- what is left of the tree of a seed after punctures -/
def tree (k : List Nat) (S : List Int) : List Nd := cover S 34 (root k)
theorem tree_nil (k : List Nat) : tree k [] = [root k] := cover_free 34 rfl
theorem tree_pun (k : List Nat) (S : List Int) (a : Int) : pun a (tree k S) = tree k (a :: S) := pun_cover 34 _ rfl
theorem tree_len (k : List Nat) (S : List Int) : (tree k S).length ≤ if cnt S (root k) = 0 then 1 else 34 * cnt S (root k) := cover_len 34 _ rfl
theorem tree_vld (k : List Nat) (S : List Int) (h : (tree k S).length ≤ 32768) : vld (tree k S) = true := by
  obtain ⟨e, h1, _, _⟩ := cover_run (S := S) 34 (root k) 0 rfl (okN_root k) (by decide) (lo_nonneg (okN_root k))
  unfold vld
  unfold tree at h ⊢
  rw [h1]
  simp [h]
theorem cnt_le (S : List Int) (n : Nd) : cnt S n ≤ S.length := List.length_filter_le _ _
theorem tree_vld_of (k : List Nat) (S : List Int) (h : S.length ≤ 900) : vld (tree k S) = true := by
  have h1 := tree_len k S
  have h2 := cnt_le S (root k)
  refine tree_vld k S ?_
  split at h1 <;> omega
/-- Leaf of a tree -/
theorem leaf_tree (k : List Nat) (S : List Int) (a : Int) (hv : vld (tree k S) = true) (ha : isAddr a = true) :
    leafOf (tree k S) a = if a ∈ S then (zero32, 10) else ((desc a 34 (root k)).k, 0) := by
  obtain ⟨_, e, he⟩ := vld_run hv
  have hf : (tree k S).find? (hasA a) = (tree k S).find? (fun m => cov m a) := by
    have : ∀ m ∈ tree k S, hasA a m = cov m a := fun m hm => hasA_cov (run_all he m hm).1
    generalize tree k S = l at this
    induction l with
    | nil => rfl
    | cons x l ih => rw [List.find?_cons, List.find?_cons, this x (by simp), ih (fun m hm => this m (by simp [hm]))]
  unfold leafOf
  rw [ha, hv, if_pos (by rfl), hf]
  by_cases hm : a ∈ S
  · rw [if_pos hm]
    rw [show (tree k S).find? (fun m => cov m a) = none from cover_find_none hm 34 _]
  · rw [if_neg hm]
    obtain ⟨m, h1, h2⟩ := cover_find hm 34 (root k) rfl (cov_root k ha)
    rw [show (tree k S).find? (fun m => cov m a) = some m from h1]
    simp only
    rw [h2]
/-! P5 -/
/-- the gaps ahead of each node -/
def gp : Int → List Nd → List (Int × Int)
  | _, [] => []
  | c, n :: l => (if c < lo n then [(c, lo n)] else []) ++ gp (hi n) l
theorem gfold_gp {c e : Int} {l : List Nd} (h : run c l = some e) : ∀ out, l.foldl gst (c, out) = (e, out ++ gp c l) := by
  induction l generalizing c with
  | nil => intro out; simp [run] at h; simp [gp, h]
  | cons x l ih =>
    simp only [run] at h
    cases hs : stp c x with
    | none => rw [hs] at h; cases h
    | some d =>
      rw [hs] at h
      obtain ⟨h1, h2, h3⟩ := stp_some hs
      subst h3
      intro out
      rw [List.foldl_cons]
      have e1 : gst (c, out) x = (hi x, out ++ (if c < lo x then [(c, lo x)] else [])) := by
        unfold gst
        rw [span_ok h1]
        simp only
        split <;> simp
      rw [e1, ih h]
      simp [gp]
def inG (g : List (Int × Int)) (x : Int) : Prop := ∃ p ∈ g, p.1 ≤ x ∧ x < p.2
theorem inG_append (g h : List (Int × Int)) (x : Int) : inG (g ++ h) x ↔ inG g x ∨ inG h x := by
  unfold inG
  constructor
  · rintro ⟨p, hp, h1⟩
    rcases List.mem_append.1 hp with hp | hp
    · exact .inl ⟨p, hp, h1⟩
    · exact .inr ⟨p, hp, h1⟩
  · rintro (⟨p, hp, h1⟩ | ⟨p, hp, h1⟩)
    · exact ⟨p, List.mem_append.2 (.inl hp), h1⟩
    · exact ⟨p, List.mem_append.2 (.inr hp), h1⟩
theorem inG_one (a b x : Int) : inG [(a, b)] x ↔ a ≤ x ∧ x < b := by simp [inG]
theorem inG_nil (x : Int) : ¬ inG [] x := by simp [inG]
theorem cov_span {n : Nd} (h : okN n = true) (x : Int) : cov n x = true ↔ lo n ≤ x ∧ x < hi n := by
  rw [← hasA_cov h]
  unfold hasA
  rw [span_ok h]
  simp
theorem run_le {c e : Int} {l : List Nd} (h : run c l = some e) : c ≤ e := by
  induction l generalizing c with
  | nil => simp [run] at h; omega
  | cons x l ih =>
    simp only [run] at h
    cases hs : stp c x with
    | none => rw [hs] at h; cases h
    | some d =>
      rw [hs] at h
      obtain ⟨h1, h2, h3⟩ := stp_some hs
      have := ih h
      have := lo_lt_hi x
      omega
theorem gp_mem {c e : Int} {l : List Nd} (h : run c l = some e) (x : Int) : inG (gp c l) x ↔ c ≤ x ∧ x < e ∧ ∀ n ∈ l, cov n x = false := by
  induction l generalizing c with
  | nil => simp [run] at h; simp [gp, inG]; omega
  | cons y l ih =>
    simp only [run] at h
    cases hs : stp c y with
    | none => rw [hs] at h; cases h
    | some d =>
      rw [hs] at h
      obtain ⟨h1, h2, h3⟩ := stp_some hs
      subst h3
      have hl := lo_lt_hi y
      have he := run_le h
      have hall := run_all h
      have i1 := ih h
      have hy := cov_span h1 x
      rw [gp, inG_append, i1]
      have e1 : inG (if c < lo y then [(c, lo y)] else []) x ↔ c ≤ x ∧ x < lo y := by
        split
        · exact inG_one _ _ _
        · constructor
          · intro hx; exact absurd hx (inG_nil x)
          · intro hx; omega
      rw [e1]
      constructor
      · rintro (⟨h4, h5⟩ | ⟨h4, h5, h6⟩)
        · refine ⟨h4, by omega, fun n hn => ?_⟩
          cases hc : cov n x with
          | false => rfl
          | true =>
            rcases List.mem_cons.1 hn with rfl | hn
            · have := hy.1 hc; omega
            · obtain ⟨h7, h8⟩ := hall n hn
              have := (cov_span h7 x).1 hc
              omega
        · refine ⟨by omega, h5, fun n hn => ?_⟩
          rcases List.mem_cons.1 hn with rfl | hn
          · cases hc : cov n x with
            | false => rfl
            | true => have := hy.1 hc; omega
          · exact h6 n hn
      · rintro ⟨h4, h5, h6⟩
        by_cases hx : x < lo y
        · exact .inl ⟨h4, hx⟩
        · refine .inr ⟨?_, h5, fun n hn => h6 n (List.mem_cons.2 (.inr hn))⟩
          have h7 := h6 y (List.mem_cons.2 (.inl rfl))
          by_cases h8 : x < hi y
          · rw [hy.2 ⟨by omega, h8⟩] at h7; cases h7
          · omega
/-- THE GAPS OF A VALID LIST -/
theorem gaps_mem {l : List Nd} (hv : vld l = true) (x : Int) : inG (gaps l) x ↔ 0 ≤ x ∧ x < 17179869184 ∧ ∀ n ∈ l, cov n x = false := by
  obtain ⟨_, e, he⟩ := vld_run hv
  have hg := gfold_gp he []
  have hm := gp_mem he x
  have hall := run_all he
  unfold gaps
  rw [if_pos hv]
  unfold gfold
  rw [hg, List.nil_append]
  unfold gend
  simp only
  have hend : e ≤ x → ∀ n ∈ l, cov n x = false := by
    intro hx n hn
    cases hc : cov n x with
    | false => rfl
    | true =>
      have h1 := (cov_span (hall n hn).1 x).1 hc
      have h2 : hi n ≤ e := by
        have key : ∀ (l : List Nd) (c : Int), run c l = some e → n ∈ l → hi n ≤ e := by
          intro l
          induction l with
          | nil => intro c _ h; cases h
          | cons y l ih =>
            intro c h hn
            simp only [run] at h
            cases hs : stp c y with
            | none => rw [hs] at h; cases h
            | some d =>
              rw [hs] at h
              obtain ⟨_, _, h3⟩ := stp_some hs
              subst h3
              rcases List.mem_cons.1 hn with rfl | hn
              · exact run_le h
              · exact ih _ h hn
        exact key l 0 he hn
      omega
  have hle : e ≤ 17179869184 := by
    have key : ∀ (l : List Nd) (c : Int), c ≤ 17179869184 → run c l = some e → e ≤ 17179869184 := by
      intro l
      induction l with
      | nil => intro c hc h; simp [run] at h; omega
      | cons y l ih =>
        intro c hc h
        simp only [run] at h
        cases hs : stp c y with
        | none => rw [hs] at h; cases h
        | some d =>
          rw [hs] at h
          obtain ⟨h1, _, h3⟩ := stp_some hs
          subst h3
          exact ih _ (hi_le h1) h
    exact key l 0 (by decide) he
  have h0 := run_le he
  split
  · rename_i hlt
    rw [inG_append, hm, inG_one]
    constructor
    · rintro (⟨h1, h2, h3⟩ | ⟨h1, h2⟩)
      · exact ⟨h1, by omega, h3⟩
      · exact ⟨by omega, h2, hend h1⟩
    · rintro ⟨h1, h2, h3⟩
      by_cases hx : x < e
      · exact .inl ⟨h1, hx, h3⟩
      · exact .inr ⟨by omega, h2⟩
  · rw [hm]
    constructor
    · rintro ⟨h1, h2, h3⟩; exact ⟨h1, by omega, h3⟩
    · rintro ⟨h1, h2, h3⟩; exact ⟨h1, by omega, h3⟩
/-! P6 -/
/-- THE GAPS OF A TREE ARE EXACTLY THE PUNCTURED ADDRESSES -/
theorem gaps_tree {k : List Nat} {S : List Int} (hv : vld (tree k S) = true) (x : Int) : inG (gaps (tree k S)) x ↔ isAddr x = true ∧ x ∈ S := by
  rw [gaps_mem hv]
  constructor
  · rintro ⟨h1, h2, h3⟩
    have ha : isAddr x = true := by unfold isAddr; simp [h1, h2]
    refine ⟨ha, ?_⟩
    by_cases hm : x ∈ S
    · exact hm
    · obtain ⟨m, h4, _⟩ := cover_find hm 34 (root k) rfl (cov_root k ha)
      have h5 := List.find?_some h4
      have h6 := h3 m (List.mem_of_find?_eq_some h4)
      simp only [h6] at h5
      cases h5
  · rintro ⟨ha, hm⟩
    unfold isAddr at ha
    simp only [Bool.and_eq_true, decide_eq_true_eq] at ha
    exact ⟨ha.1, ha.2, fun n hn => cover_out hm 34 _ n hn⟩
/-- intervals that are not empty, in order, each apart from the next -/
def Norm (g : List (Int × Int)) : Prop := (∀ p ∈ g, p.1 < p.2) ∧ g.Pairwise fun p q => p.2 < q.1
theorem Norm.tail {p : Int × Int} {g : List (Int × Int)} (h : Norm (p :: g)) : Norm g := ⟨fun q hq => h.1 q (List.mem_cons.2 (.inr hq)), (List.pairwise_cons.1 h.2).2⟩
theorem Norm.head {p : Int × Int} {g : List (Int × Int)} (h : Norm (p :: g)) : p.1 < p.2 := h.1 p (List.mem_cons.2 (.inl rfl))
theorem Norm.past {p : Int × Int} {g : List (Int × Int)} (h : Norm (p :: g)) {x : Int} (hx : inG g x) : p.2 < x := by
  obtain ⟨q, hq, h1, h2⟩ := hx
  have := (List.pairwise_cons.1 h.2).1 q hq
  omega
theorem inG_cons (p : Int × Int) (g : List (Int × Int)) (x : Int) : inG (p :: g) x ↔ (p.1 ≤ x ∧ x < p.2) ∨ inG g x := by
  rw [show p :: g = [p] ++ g from rfl, inG_append, inG_one]
theorem norm_unique : ∀ {g h : List (Int × Int)}, Norm g → Norm h → (∀ x, inG g x ↔ inG h x) → g = h := by
  intro g
  induction g with
  | nil =>
    intro h hg hh he
    cases h with
    | nil => rfl
    | cons q h => exact absurd ((he q.1).2 ((inG_cons _ _ _).2 (.inl ⟨Int.le_refl _, hh.head⟩))) (inG_nil _)
  | cons p g ih =>
    intro h hg hh he
    cases h with
    | nil => exact absurd ((he p.1).1 ((inG_cons _ _ _).2 (.inl ⟨Int.le_refl _, hg.head⟩))) (inG_nil _)
    | cons q h =>
      have a1 := hg.head
      have a2 := hh.head
      -- the lowest member of each
      have b1 : q.1 ≤ p.1 := by
        rcases (inG_cons _ _ _).1 ((he p.1).1 ((inG_cons _ _ _).2 (.inl ⟨Int.le_refl _, a1⟩))) with h1 | h1
        · exact h1.1
        · have := hh.past h1; omega
      have b2 : p.1 ≤ q.1 := by
        rcases (inG_cons _ _ _).1 ((he q.1).2 ((inG_cons _ _ _).2 (.inl ⟨Int.le_refl _, a2⟩))) with h1 | h1
        · exact h1.1
        · have := hg.past h1; omega
      -- the first one that is not held
      have c1 : ¬ inG (p :: g) p.2 := fun hx => by
        rcases (inG_cons _ _ _).1 hx with h1 | h1
        · omega
        · have := hg.past h1; omega
      have c2 : ¬ inG (q :: h) q.2 := fun hx => by
        rcases (inG_cons _ _ _).1 hx with h1 | h1
        · omega
        · have := hh.past h1; omega
      have d1 : q.2 ≤ p.2 := by
        by_cases hlt : p.2 < q.2
        · exact absurd ((he p.2).2 ((inG_cons _ _ _).2 (.inl ⟨by omega, hlt⟩))) c1
        · omega
      have d2 : p.2 ≤ q.2 := by
        by_cases hlt : q.2 < p.2
        · exact absurd ((he q.2).1 ((inG_cons _ _ _).2 (.inl ⟨by omega, hlt⟩))) c2
        · omega
      have e : p = q := Prod.ext (by omega) (by omega)
      subst e
      rw [ih hg.tail hh.tail fun x => ⟨fun hx => ?_, fun hx => ?_⟩]
      · rcases (inG_cons _ _ _).1 ((he x).1 ((inG_cons _ _ _).2 (.inr hx))) with h1 | h1
        · have := hg.past hx; omega
        · exact h1
      · rcases (inG_cons _ _ _).1 ((he x).2 ((inG_cons _ _ _).2 (.inr hx))) with h1 | h1
        · have := hh.past hx; omega
        · exact h1
theorem gp_norm {l : List Nd} : ∀ {c e : Int}, run c l = some e → Norm (gp c l) ∧ ∀ p ∈ gp c l, c ≤ p.1 ∧ p.2 < e := by
  induction l with
  | nil => intro c e h; exact ⟨⟨fun p hp => (by cases hp), List.Pairwise.nil⟩, fun p hp => (by cases hp)⟩
  | cons y l ih =>
    intro c e h
    simp only [run] at h
    cases hs : stp c y with
    | none => rw [hs] at h; cases h
    | some d =>
      rw [hs] at h
      obtain ⟨h1, h2, h3⟩ := stp_some hs
      subst h3
      have hl := lo_lt_hi y
      have he := run_le h
      obtain ⟨⟨n1, n2⟩, n3⟩ := ih h
      simp only [gp]
      split
      · rename_i hlt
        refine ⟨⟨fun p hp => ?_, List.pairwise_cons.2 ⟨fun q hq => ?_, n2⟩⟩, fun p hp => ?_⟩
        · rcases List.mem_cons.1 hp with rfl | hp
          · exact hlt
          · exact n1 p hp
        · have := (n3 q hq).1
          show lo y < q.1
          omega
        · rcases List.mem_cons.1 hp with rfl | hp
          · exact ⟨Int.le_refl _, by show lo y < e; omega⟩
          · have := n3 p hp
            exact ⟨by omega, this.2⟩
      · exact ⟨⟨n1, n2⟩, fun p hp => by have := n3 p hp; exact ⟨by omega, this.2⟩⟩
theorem gaps_norm {l : List Nd} (hv : vld l = true) : Norm (gaps l) := by
  obtain ⟨_, e, he⟩ := vld_run hv
  obtain ⟨⟨n1, n2⟩, n3⟩ := gp_norm he
  unfold gaps
  rw [if_pos hv]
  unfold gfold
  rw [gfold_gp he [], List.nil_append]
  unfold gend
  simp only
  split
  · rename_i hlt
    refine ⟨fun p hp => ?_, List.pairwise_append.2 ⟨n2, List.pairwise_singleton _ _, fun p hp q hq => ?_⟩⟩
    · rcases List.mem_append.1 hp with hp | hp
      · exact n1 p hp
      · obtain rfl := List.mem_singleton.1 hp; exact hlt
    · obtain rfl := List.mem_singleton.1 hq
      exact (n3 p hp).2
  · exact ⟨n1, n2⟩
/-! P7 -/
/-- the nodes that Puncture gathers -/
def punP (a : Int) (l : List Nd) : List Nd := l.flatMap fun n => if hasA a n then oth a (34 - n.d).toNat n else [n]
/-- what Puncture returns -/
def punOf (l : List Nd) (a : Int) : List Nd × Int := if isAddr a && vld l then (if 32768 < (punP a l).length then ([], 8) else (punP a l, 0)) else ([], 1)
theorem flatMap_congr' {α β : Type} {f g : α → List β} : ∀ {l : List α}, (∀ x ∈ l, f x = g x) → l.flatMap f = l.flatMap g := by
  intro l
  induction l with
  | nil => intro _; rfl
  | cons x l ih =>
    intro h
    rw [List.flatMap_cons, List.flatMap_cons, h x (List.mem_cons.2 (.inl rfl)), ih fun y hy => h y (List.mem_cons.2 (.inr hy))]
theorem punP_pun {l : List Nd} (hv : vld l = true) (a : Int) : punP a l = pun a l := by
  obtain ⟨_, e, he⟩ := vld_run hv
  have hall := run_all he
  unfold punP pun
  exact flatMap_congr' fun n hn => by rw [hasA_cov (hall n hn).1]
theorem tree_short (k : List Nat) (S : List Int) (h : S.length ≤ 900) : (tree k S).length ≤ 32768 := by
  have h1 := tree_len k S
  have h2 := cnt_le S (root k)
  split at h1 <;> omega
/-- A PUNCTURE OF A TREE -/
theorem punOf_tree {k : List Nat} {S : List Int} {a : Int} (h : S.length ≤ 800) (ha : isAddr a = true) : punOf (tree k S) a = (tree k (a :: S), 0) := by
  have hv := tree_vld_of k S (by omega)
  have hs := tree_short k (a :: S) (by simp; omega)
  unfold punOf
  rw [ha, hv, if_pos (by rfl), punP_pun hv, tree_pun, if_neg (by omega)]
/-- punctures one after another, each of a tree that the one before left -/
def puns (k : List Nat) (l : List Int) : List Nd := l.foldl (fun t a => (punOf t a).1) (tree k [])
theorem foldl_tree {k : List Nat} : ∀ (l S : List Int), S.length + l.length ≤ 800 → (∀ a ∈ l, isAddr a = true) → l.foldl (fun t a => (punOf t a).1) (tree k S) = tree k (l.reverse ++ S) := by
  intro l
  induction l with
  | nil => intro S _ _; rw [List.foldl_nil, List.reverse_nil, List.nil_append]
  | cons a l ih =>
    intro S h ha
    rw [List.length_cons] at h
    rw [List.foldl_cons, punOf_tree (by omega) (ha a (List.mem_cons.2 (.inl rfl))), ih (a :: S) (by rw [List.length_cons]; omega) fun b hb => ha b (List.mem_cons.2 (.inr hb)), List.reverse_cons, List.append_assoc, List.singleton_append]
theorem puns_tree {k : List Nat} {l : List Int} (h : l.length ≤ 800) (ha : ∀ a ∈ l, isAddr a = true) : puns k l = tree k l := by
  unfold puns
  rw [foldl_tree l [] (by simpa using h) ha, List.append_nil]
  exact cover_congr (fun a => List.mem_reverse) 34 _
/-- THE ORDER OF PUNCTURES DOES NOT MATTER -/
theorem puns_order {k : List Nat} {l m : List Int} (h : l.length ≤ 800) (hm : m.length ≤ 800) (ha : ∀ a ∈ l, isAddr a = true) (hs : ∀ a, a ∈ l ↔ a ∈ m) : puns k l = puns k m := by
  rw [puns_tree h ha, puns_tree hm fun a hx => ha a ((hs a).2 hx)]
  exact cover_congr hs 34 _
/-- A SECOND PUNCTURE OF AN ADDRESS CHANGES NOTHING -/
theorem tree_again {k : List Nat} {S : List Int} {a : Int} (h : a ∈ S) : tree k (a :: S) = tree k S :=
  cover_congr (fun x => by rw [List.mem_cons]; exact ⟨fun hx => hx.elim (fun e => e ▸ h) id, .inr⟩) 34 _
/-! P8 -/
theorem Nok_of {n : Nd} (h : okN n = true) (hk : Dg n.k) : Nok n := by
  have hp := okN_p h
  obtain ⟨h1, h2, h3, h4⟩ := okN_iff.1 h
  exact ⟨hk, ⟨by omega, by omega⟩, ⟨by omega, by omega⟩⟩
theorem child_dg (n : Nd) (r : Bool) : Dg (child n r).k := ck_dg _ _
theorem oth_ok {a : Int} (k : Nat) : ∀ n : Nd, n.d = 34 - k → okN n = true → ∀ m ∈ oth a k n, okN m = true ∧ Dg m.k := by
  induction k with
  | zero => intro n _ _ m hm; cases hm
  | succ k ih =>
    intro n hd ho m hm
    have h33 : n.d ≤ 33 := by omega
    have d0 : ∀ r, (child n r).d = 34 - (k : Int) := fun r => by simp [child]; omega
    rw [oth] at hm
    split at hm
    · rcases List.mem_cons.1 hm with rfl | hm
      · exact ⟨okN_child _ ho h33, child_dg _ _⟩
      · exact ih _ (d0 true) (okN_child _ ho h33) m hm
    · rcases List.mem_append.1 hm with hm | hm
      · exact ih _ (d0 false) (okN_child _ ho h33) m hm
      · obtain rfl := List.mem_singleton.1 hm
        exact ⟨okN_child _ ho h33, child_dg _ _⟩
theorem oth_len {a : Int} (k : Nat) : ∀ n : Nd, (oth a k n).length = k := by
  induction k with
  | zero => intro n; rfl
  | succ k ih =>
    intro n
    rw [oth]
    split
    · rw [List.length_cons, ih]
    · rw [List.length_append, ih]; rfl
theorem cover_ok {S : List Int} (k : Nat) : ∀ n : Nd, n.d = 34 - k → okN n = true → Dg n.k → ∀ m ∈ cover S k n, okN m = true ∧ Dg m.k := by
  induction k with
  | zero =>
    intro n hd ho hk m hm
    simp only [cover] at hm
    split at hm
    · cases hm
    · obtain rfl := List.mem_singleton.1 hm; exact ⟨ho, hk⟩
  | succ k ih =>
    intro n hd ho hk m hm
    have h33 : n.d ≤ 33 := by omega
    have d0 : ∀ r, (child n r).d = 34 - (k : Int) := fun r => by simp [child]; omega
    simp only [cover] at hm
    split at hm
    · rcases List.mem_append.1 hm with hm | hm
      · exact ih _ (d0 false) (okN_child _ ho h33) (child_dg _ _) m hm
      · exact ih _ (d0 true) (okN_child _ ho h33) (child_dg _ _) m hm
    · obtain rfl := List.mem_singleton.1 hm; exact ⟨ho, hk⟩
theorem tree_ok {k : List Nat} {S : List Int} (hk : Dg k) : ∀ m ∈ tree k S, Nok m := fun m hm =>
  let h := cover_ok 34 (root k) rfl (okN_root k) hk m hm
  Nok_of h.1 h.2
/-! P9 -/
theorem fnd_none {a : Int} {l : List Nd} (h : l.find? (fun n => cov n a) = none) : fndI a l = -1 :=
  fndI_none fun j hj => by
    have := List.find?_eq_none.1 h l[j] (List.getElem_mem hj)
    simpa using this
theorem fnd_some {a : Int} {l : List Nd} {n : Nd} (h : l.find? (fun n => cov n a) = some n) : ∃ (i : Nat) (hi : i < l.length), fndI a l = i ∧ l[i] = n := by
  obtain ⟨h1, i, hi, h2, h3⟩ := List.find?_eq_some_iff_getElem.1 h
  refine ⟨i, hi, fndI_some hi (fun j hj => ?_) (by rw [h2]; exact h1), h2⟩
  have := h3 j hj
  simpa using this
/-! P10 -/
theorem pun_free {a : Int} : ∀ {l : List Nd}, (∀ n ∈ l, cov n a = false) → pun a l = l := by
  intro l
  induction l with
  | nil => intro _; rfl
  | cons x l ih =>
    intro h
    have hx := h x (List.mem_cons.2 (.inl rfl))
    have hl := ih fun n hn => h n (List.mem_cons.2 (.inr hn))
    unfold pun at hl ⊢
    rw [List.flatMap_cons, hl, hx]
    rfl
theorem pun_append (a : Int) (l m : List Nd) : pun a (l ++ m) = pun a l ++ pun a m := by unfold pun; rw [List.flatMap_append]
/-- in a valid list one node at most covers an address -/
theorem cov_once {l : List Nd} (hv : vld l = true) {a : Int} {i j : Nat} (hi : i < l.length) (hj : j < l.length) (h1 : cov l[i] a = true) (h2 : cov l[j] a = true) : i = j := by
  obtain ⟨_, e, he⟩ := vld_run hv
  have hall := run_all he
  have hp := List.pairwise_iff_getElem.1 (run_pairwise he)
  have s1 := (cov_span (hall l[i] (List.getElem_mem hi)).1 a).1 h1
  have s2 := (cov_span (hall l[j] (List.getElem_mem hj)).1 a).1 h2
  rcases Nat.lt_trichotomy i j with h | h | h
  · have := hp i j hi hj h; omega
  · exact h
  · have := hp j i hj hi h; omega
theorem pun_at {l : List Nd} (hv : vld l = true) {a : Int} {i : Nat} (hi : i < l.length) (hc : cov l[i] a = true) : pun a l = l.take i ++ (oth a (34 - l[i].d).toNat l[i] ++ l.drop (i + 1)) := by
  have e : l = l.take i ++ (l[i] :: l.drop (i + 1)) := by rw [← List.drop_eq_getElem_cons hi, List.take_append_drop]
  have h1 : pun a (l.take i) = l.take i := pun_free fun n hn => by
    obtain ⟨j, hj, rfl⟩ := List.getElem_of_mem hn
    rw [List.length_take] at hj
    cases h : cov (l.take i)[j] a with
    | false => rfl
    | true =>
      rw [List.getElem_take] at h
      have := cov_once hv hi (by omega) hc h
      omega
  have h2 : pun a (l.drop (i + 1)) = l.drop (i + 1) := pun_free fun n hn => by
    obtain ⟨j, hj, rfl⟩ := List.getElem_of_mem hn
    rw [List.length_drop] at hj
    cases h : cov (l.drop (i + 1))[j] a with
    | false => rfl
    | true =>
      rw [List.getElem_drop] at h
      have := cov_once hv hi (by omega) hc h
      omega
  have h3 : pun a (l[i] :: l.drop (i + 1)) = oth a (34 - l[i].d).toNat l[i] ++ pun a (l.drop (i + 1)) := by
    unfold pun
    rw [List.flatMap_cons, if_pos hc]
  calc pun a l = pun a (l.take i ++ (l[i] :: l.drop (i + 1))) := congrArg (pun a) e
    _ = _ := by rw [pun_append, h1, h3, h2]
/-! P11 -/
/-- the program's loop: smaller, greater (greater in the order of the way down) -/
def downP (a : Int) : Nat → Nd → List Nd → List Nd → List Nd × List Nd
  | 0, _, L, R => (L, R)
  | k + 1, n, L, R => if bit n a then downP a k (child n true) (L ++ [child n false]) R else downP a k (child n false) L (R ++ [child n true])
theorem downP_oth (a : Int) (k : Nat) : ∀ (n : Nd) (L R : List Nd), (downP a k n L R).1 ++ (downP a k n L R).2.reverse = L ++ (oth a k n ++ R.reverse) := by
  induction k with
  | zero => intro n L R; rfl
  | succ k ih =>
    intro n L R
    rw [downP, oth]
    split
    · rw [ih]; simp
    · rw [ih]; simp
/-- the reference's loop: left, right (right from behind) -/
def downR (a : Int) : Nat → Nd → List Nd → List Nd → List Nd × List Nd
  | 0, _, L, R => (L, R)
  | k + 1, n, L, R => if cov (child n false) a then downR a k (child n false) L (child n true :: R) else downR a k (child n true) (L ++ [child n false]) R
theorem downR_oth (a : Int) (k : Nat) : ∀ (n : Nd) (L R : List Nd), n.d = 34 - k → cov n a = true → (downR a k n L R).1 ++ (downR a k n L R).2 = L ++ (oth a k n ++ R) := by
  induction k with
  | zero => intro n L R _ _; rfl
  | succ k ih =>
    intro n L R hd hc
    have d0 : ∀ r, (child n r).d = 34 - (k : Int) := fun r => by simp [child]; omega
    have c0 := cov_bit (r := false) (n := n) (by omega) hc
    have c1 := cov_bit (r := true) (n := n) (by omega) hc
    rw [downR, oth]
    cases hb : bit n a with
    | true =>
      rw [hb] at c0 c1
      rw [if_neg (by rw [c0]; decide), if_pos rfl, ih _ _ _ (d0 true) (by rw [c1]; rfl)]
      simp
    | false =>
      rw [hb] at c0
      rw [if_pos (by rw [c0]; rfl), if_neg (by decide), ih _ _ _ (d0 false) (by rw [c0]; rfl)]
      simp
end Go.Proofs.Yteakoleceoclkaa
