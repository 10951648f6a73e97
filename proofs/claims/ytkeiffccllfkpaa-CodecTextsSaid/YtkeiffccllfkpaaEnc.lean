/- The encodings of the codec as lists of bytes, their parsers, and the laws between them: no program in sight. -/
import Derived.Test.YtkeiffccllfkpaaParse
namespace Go.Proofs.Ytkeiffccllfkpaa
open Go.RowKit

/-- the bytes of a string -/
def by_ (s : ByteArray) : List Nat := s.data.toList.map UInt8.toNat
theorem by_len (s : ByteArray) : (by_ s).length = s.size := by unfold by_; rw [List.length_map]; rfl
theorem by_lt (s : ByteArray) : ∀ b ∈ by_ s, b < 256 := by
  intro b hb
  simp only [by_, List.mem_map] at hb
  obtain ⟨u, _, rfl⟩ := hb
  exact u.toNat_lt
theorem bs_by (s : ByteArray) : bs (by_ s) = s := by
  unfold bs by_
  rw [List.map_map]
  have e : (fun n => UInt8.ofNat n) ∘ UInt8.toNat = id := funext fun u => by simp
  rw [e, List.map_id]
theorem by_bs (l : List Nat) (h : ∀ b ∈ l, b < 256) : by_ (bs l) = l := by
  unfold by_ bs
  simp only [List.map_map]
  conv => rhs; rw [← List.map_id l]
  refine List.map_congr_left fun x hx => ?_
  have := h x hx
  simp
  omega
theorem by_nil : by_ ByteArray.empty = [] := rfl

abbrev I64 (n : Int) : Prop := -9223372036854775808 ≤ n ∧ n ≤ 9223372036854775807

/-- b is an encoding of x: it is read as x, and what is cut from it is too short -/
structure Cd {α : Type} (p : Parser α) (b : List Nat) (x : α) : Prop where
  rt : ∀ rest, p (b ++ rest) = .ok (x, rest)
  cut : ∀ l t, b = l ++ t → t ≠ [] → p l = .error 100

theorem Cd.bind {α β : Type} {p : Parser α} {q : α → Parser β} {b b' : List Nat} {x : α} {y : β} (h : Cd p b x) (k : Cd (q x) b' y) : Cd (pBind p q) (b ++ b') y := by
  refine ⟨fun rest => ?_, fun l t hl ht => ?_⟩
  · unfold pBind
    rw [List.append_assoc, h.rt]
    exact k.rt rest
  · unfold pBind
    rcases List.append_eq_append_iff.1 hl with ⟨m, h1, h2⟩ | ⟨m, h1, h2⟩
    · subst h1
      rw [h.rt]
      exact k.cut m t h2 ht
    · by_cases hm : m = []
      · subst hm
        simp only [List.append_nil] at h1
        have h2' : b' = t := by simpa using h2.symm
        subst h1
        have := h.rt []
        rw [List.append_nil] at this
        rw [this]
        exact k.cut [] b' rfl (by rw [h2']; exact ht)
      · rw [h.cut l m h1 hm]
theorem Cd.pure {α : Type} (x : α) : Cd (pPure x) [] x :=
  ⟨fun _ => rfl, fun l t h ht => by have := congrArg List.length h; have := List.length_pos_iff.2 ht; simp at *; omega⟩
theorem Cd.map {α β : Type} {p : Parser α} {b : List Nat} {x : α} (f : α → β) (h : Cd p b x) : Cd (pBind p fun a => pPure (f a)) b (f x) := by
  have := h.bind (q := fun a => pPure (f a)) (Cd.pure (f x))
  rwa [List.append_nil] at this
theorem Cd.of {α : Type} {p : Parser α} {b b' : List Nat} {x : α} (h : Cd p b x) (e : b = b') : Cd p b' x := e ▸ h

theorem bind_ok {α β : Type} {p : Parser α} {q : α → Parser β} {l r : List Nat} {y : β} (h : pBind p q l = .ok (y, r)) : ∃ x m, p l = .ok (x, m) ∧ q x m = .ok (y, r) := by
  unfold pBind at h
  cases hp : p l with
  | error e => rw [hp] at h; cases h
  | ok z => obtain ⟨x, m⟩ := z; rw [hp] at h; exact ⟨x, m, rfl, h⟩
theorem pure_ok {α : Type} {x y : α} {l r : List Nat} (h : pPure x l = .ok (y, r)) : y = x ∧ l = r := by
  unfold pPure at h
  simp only [Except.ok.injEq, Prod.mk.injEq] at h
  exact ⟨h.1.symm, h.2⟩

/-! ### integers -/
theorem pow_step (i : Nat) : 2 ^ (7 * (i + 1)) = 128 * 2 ^ (7 * i) := by rw [show 7 * (i + 1) = 7 + 7 * i by omega, Nat.pow_add]
theorem nine {u i : Nat} (hi : i = 9) (h : u * 2 ^ (7 * i) < 18446744073709551616) : u < 2 := by
  subst hi
  have e : (2 : Nat) ^ (7 * 9) = 9223372036854775808 := by decide
  rw [e] at h; omega
theorem rdI_leb (u : Nat) : ∀ (i x : Nat) (rest : List Nat), i ≤ 9 → u * 2 ^ (7 * i) < 18446744073709551616 → (0 < i → 0 < u) → rdI (leb u ++ rest) i x = .ok (x + u * 2 ^ (7 * i), rest) := by
  induction u using leb.induct with
  | case1 u h =>
    intro i x rest hi h1 h2
    have h9 := fun e => nine (i := i) (u := u) e h1
    rw [leb_small h, List.singleton_append, rdI, if_neg (by omega), if_pos h, Nat.mod_eq_of_lt h]
  | case2 u h ih =>
    intro i x rest hi h1 h2
    have h9 := fun e => nine (i := i) (u := u) e h1
    rw [leb_big h, List.cons_append, rdI, if_neg (by omega), if_neg (by omega), ih (i + 1) _ rest (by omega) ?_ (by omega), pow_step]
    · have e : (u % 128 + 128) % 128 = u % 128 := by omega
      rw [e]
      have e2 : u = u % 128 + 128 * (u / 128) := by omega
      generalize 2 ^ (7 * i) = P at *
      congr 2
      conv => rhs; rw [e2]
      rw [Nat.add_mul, Nat.add_assoc, Nat.mul_comm 128 (u / 128), Nat.mul_assoc]
    · rw [pow_step]
      generalize 2 ^ (7 * i) = P at *
      have : u / 128 * (128 * P) ≤ u * P := by
        rw [← Nat.mul_assoc]
        exact Nat.mul_le_mul_right _ (by omega)
      omega
theorem rdI_cut (u : Nat) : ∀ (i x : Nat) (l t : List Nat), i ≤ 9 → u * 2 ^ (7 * i) < 18446744073709551616 → leb u = l ++ t → t ≠ [] → rdI l i x = .error 100 := by
  induction u using leb.induct with
  | case1 u h =>
    intro i x l t hi h1 hl ht
    rw [leb_small h] at hl
    cases l with
    | nil => rfl
    | cons c l =>
      simp only [List.cons_append, List.cons.injEq] at hl
      have := hl.2
      simp at this
      exact absurd this.2 ht
  | case2 u h ih =>
    intro i x l t hi h1 hl ht
    have h9 := fun e => nine (i := i) (u := u) e h1
    rw [leb_big h] at hl
    cases l with
    | nil => rfl
    | cons c l =>
      simp only [List.cons_append, List.cons.injEq] at hl
      obtain ⟨rfl, hl⟩ := hl
      rw [rdI, if_neg (by omega), if_neg (by omega)]
      refine ih (i + 1) _ l t (by omega) ?_ hl ht
      rw [pow_step]
      generalize 2 ^ (7 * i) = P at *
      have : u / 128 * (128 * P) ≤ u * P := by
        rw [← Nat.mul_assoc]
        exact Nat.mul_le_mul_right _ (by omega)
      omega
theorem rdI_only : ∀ (l : List Nat) (i x y : Nat) (r : List Nat), i ≤ 9 → (∀ b ∈ l, b < 256) → rdI l i x = .ok (y, r) → ∃ u, y = x + u * 2 ^ (7 * i) ∧ l = leb u ++ r ∧ (0 < i → 0 < u)
  | [], i, x, y, r, _, _, h => by simp [rdI] at h
  | c :: l, i, x, y, r, hi, hb, h => by
    have hc := hb c List.mem_cons_self
    unfold rdI at h
    split at h
    · cases h
    · rename_i hbad
      split at h
      · rename_i hlt
        simp only [Except.ok.injEq, Prod.mk.injEq] at h
        obtain ⟨rfl, rfl⟩ := h
        exact ⟨c, by rw [Nat.mod_eq_of_lt hlt], by rw [leb_small hlt]; rfl, by omega⟩
      · rename_i hge
        obtain ⟨u, hy, hl, hu⟩ := rdI_only l (i + 1) _ y r (by omega) (fun b hb' => hb b (List.mem_cons_of_mem _ hb')) h
        have hu := hu (by omega)
        refine ⟨c % 128 + 128 * u, ?_, ?_, by omega⟩
        · rw [hy, pow_step]
          generalize 2 ^ (7 * i) = P
          rw [Nat.add_mul, Nat.add_assoc, Nat.mul_comm 128 u, Nat.mul_assoc]
        · rw [leb_big (by omega), List.cons_append]
          have e1 : (c % 128 + 128 * u) % 128 + 128 = c := by omega
          have e2 : (c % 128 + 128 * u) / 128 = u := by omega
          rw [e1, e2, ← hl]
theorem unzig_zig (n : Int) : unzig (zig n) = n := by
  unfold unzig zig
  split <;> split <;> omega
theorem zig_unzig (x : Nat) : zig (unzig x) = x := by
  unfold unzig zig
  split <;> split <;> omega
theorem cd_int {n : Int} (h : I64 n) : Cd pInt (enc n) n := by
  have hz := zig_lt h.1 h.2
  refine ⟨fun rest => ?_, fun l t hl ht => ?_⟩
  · unfold pInt enc
    rw [rdI_leb _ 0 0 rest (by omega) (by simpa using hz) (by omega)]
    simp [unzig_zig]
  · unfold pInt
    rw [rdI_cut (zig n) 0 0 l t (by omega) (by simpa using hz) hl ht]
theorem int_only {l r : List Nat} {n : Int} (hb : ∀ b ∈ l, b < 256) (h : pInt l = .ok (n, r)) : l = enc n ++ r ∧ I64 n := by
  refine ⟨?_, pInt_range hb h⟩
  unfold pInt at h
  cases hr : rdI l 0 0 with
  | error e => rw [hr] at h; cases h
  | ok y =>
    obtain ⟨y, r'⟩ := y
    rw [hr] at h
    simp only [Except.ok.injEq, Prod.mk.injEq] at h
    obtain ⟨rfl, rfl⟩ := h
    obtain ⟨u, hy, hl, _⟩ := rdI_only l 0 0 y r' (by omega) hb hr
    simp at hy
    subst hy
    unfold enc
    rw [zig_unzig]
    exact hl
theorem cd_intIn {a b n : Int} (h : I64 n) (ha : a ≤ n) (hb : n ≤ b) : Cd (pIntIn a b) (enc n) n := by
  have c := cd_int h
  refine ⟨fun rest => ?_, fun l t hl ht => ?_⟩
  · unfold pIntIn
    rw [c.rt]
    simp only
    rw [if_neg (by omega)]
  · unfold pIntIn
    rw [c.cut l t hl ht]
theorem intIn_only {a b : Int} {l r : List Nat} {n : Int} (hb : ∀ b ∈ l, b < 256) (h : pIntIn a b l = .ok (n, r)) : l = enc n ++ r ∧ I64 n ∧ a ≤ n ∧ n ≤ b := by
  unfold pIntIn at h
  cases hp : pInt l with
  | error e => rw [hp] at h; cases h
  | ok y =>
    obtain ⟨m, r'⟩ := y
    rw [hp] at h
    simp only at h
    split at h
    · cases h
    · simp only [Except.ok.injEq, Prod.mk.injEq] at h
      obtain ⟨rfl, rfl⟩ := h
      have := int_only hb hp
      exact ⟨this.1, this.2, by omega, by omega⟩

/-! ### bytes, texts, lists -/
theorem cd_bytes (b : List Nat) (n : Nat) (hn : n = b.length) : Cd (pBytes n) b b := by
  subst hn
  refine ⟨fun rest => ?_, fun l t hl ht => ?_⟩
  · unfold pBytes
    rw [if_pos (by simp)]
    simp
  · unfold pBytes
    rw [if_neg]
    have := congrArg List.length hl
    have h2 : 0 < t.length := List.length_pos_iff.2 ht
    simp at this; omega
theorem bytes_only {n : Nat} {l r x : List Nat} (h : pBytes n l = .ok (x, r)) : l = x ++ r ∧ x.length = n := by
  unfold pBytes at h
  split at h
  · rename_i hn
    simp only [Except.ok.injEq, Prod.mk.injEq] at h
    obtain ⟨rfl, rfl⟩ := h
    exact ⟨(List.take_append_drop _ _).symm, by simp; omega⟩
  · cases h
def encT (s : ByteArray) : List Nat := enc s.size ++ by_ s
def pText (most : Int) : Parser ByteArray := pBind (pIntIn 0 most) fun n => pBind (pBytes n.toNat) fun b => pPure (bs b)
theorem cd_text (s : ByteArray) {most : Int} (h : (s.size : Int) ≤ most) (hm : (s.size : Int) ≤ 9223372036854775807) : Cd (pText most) (encT s) s := by
  refine (cd_intIn ⟨by omega, by omega⟩ (by omega) h).bind ?_
  have := Cd.map bs (cd_bytes (by_ s) (s.size : Int).toNat (by rw [by_len]; omega))
  rwa [bs_by] at this
theorem text_only {most : Int} {l r : List Nat} {s : ByteArray} (hb : ∀ b ∈ l, b < 256) (h : pText most l = .ok (s, r)) : l = encT s ++ r ∧ (s.size : Int) ≤ most := by
  obtain ⟨n, m, h1, h⟩ := bind_ok h
  obtain ⟨b, m', h2, h⟩ := bind_ok h
  obtain ⟨rfl, rfl⟩ := pure_ok h
  obtain ⟨rfl, h3, h4, h5⟩ := intIn_only hb h1
  obtain ⟨rfl, h6⟩ := bytes_only h2
  have hb' : ∀ x ∈ b, x < 256 := fun x hx => hb x (by simp [hx])
  have hs : ((bs b).size : Int) = n := by rw [bs_size, h6]; omega
  exact ⟨by unfold encT; rw [by_bs b hb', hs, List.append_assoc], by rw [hs]; exact h5⟩
def pRep {α : Type} (p : Parser α) : Nat → Parser (List α)
  | 0 => pPure []
  | n + 1 => pBind p fun x => pBind (pRep p n) fun l => pPure (x :: l)
def pList {α : Type} (most : Int) (p : Parser α) : Parser (List α) := pBind (pIntIn 0 most) fun n => pRep p n.toNat
theorem cd_rep {α β : Type} {p : Parser α} {e : β → List Nat} {g : β → α} : ∀ (l : List β), (∀ x ∈ l, Cd p (e x) (g x)) → Cd (pRep p l.length) (l.flatMap e) (l.map g)
  | [], _ => Cd.pure []
  | x :: l, h => by
    have h1 := h x List.mem_cons_self
    have h2 := cd_rep l fun y hy => h y (List.mem_cons_of_mem _ hy)
    exact h1.bind (Cd.map (fun l => g x :: l) h2)
theorem cd_list {α β : Type} {p : Parser α} {e : β → List Nat} {g : β → α} (l : List β) {most : Int} (hm : (l.length : Int) ≤ most) (hi : (l.length : Int) ≤ 9223372036854775807) (h : ∀ x ∈ l, Cd p (e x) (g x)) :
    Cd (pList most p) (enc l.length ++ l.flatMap e) (l.map g) := by
  refine (cd_intIn ⟨by omega, hi⟩ (by omega) hm).bind ?_
  rw [Int.toNat_natCast]
  exact cd_rep l h
theorem rep_only {α : Type} {p : Parser α} {e : α → List Nat} {W : α → Prop} (hp : ∀ l x r, (∀ b ∈ l, b < 256) → p l = .ok (x, r) → l = e x ++ r ∧ W x) : ∀ (n : Nat) (l : List Nat) (xs : List α) (r : List Nat), (∀ b ∈ l, b < 256) → pRep p n l = .ok (xs, r) → l = xs.flatMap e ++ r ∧ xs.length = n ∧ ∀ x ∈ xs, W x
  | 0, l, xs, r, hb, h => by
    obtain ⟨rfl, rfl⟩ := pure_ok h
    exact ⟨rfl, rfl, fun _ h => by cases h⟩
  | n + 1, l, xs, r, hb, h => by
    obtain ⟨x, m, h1, h⟩ := bind_ok h
    obtain ⟨ys, m', h2, h⟩ := bind_ok h
    obtain ⟨rfl, rfl⟩ := pure_ok h
    obtain ⟨rfl, hw⟩ := hp l x m hb h1
    obtain ⟨rfl, hn, hw'⟩ := rep_only hp n m ys m' (fun b hb' => hb b (by simp [hb'])) h2
    refine ⟨by simp, by simp [hn], fun y hy => ?_⟩
    rcases List.mem_cons.1 hy with rfl | hy
    · exact hw
    · exact hw' y hy
theorem list_only {α : Type} {p : Parser α} {e : α → List Nat} {W : α → Prop} {most : Int} (hp : ∀ l x r, (∀ b ∈ l, b < 256) → p l = .ok (x, r) → l = e x ++ r ∧ W x) {l r : List Nat} {xs : List α} (hb : ∀ b ∈ l, b < 256) (h : pList most p l = .ok (xs, r)) :
    l = enc xs.length ++ xs.flatMap e ++ r ∧ (xs.length : Int) ≤ most ∧ ∀ x ∈ xs, W x := by
  obtain ⟨n, m, h1, h2⟩ := bind_ok h
  clear h
  obtain ⟨rfl, h3, h4, h5⟩ := intIn_only hb h1
  obtain ⟨rfl, h6, h7⟩ := rep_only hp _ m xs r (fun b hb' => hb b (by simp [hb'])) h2
  have e : (xs.length : Int) = n := by rw [h6]; omega
  exact ⟨by rw [e, List.append_assoc], by rw [e]; exact h5, h7⟩
/-- one element more, from behind -/
theorem rep_snoc {α : Type} {p : Parser α} : ∀ (k : Nat) {s s1 s2 : St} {l : List α} {x : α}, Rel (pRep p k) s l s1 → Rel p s1 x s2 → Rel (pRep p (k + 1)) s (l ++ [x]) s2
  | 0, s, s1, s2, l, x, h, hx => by
    have : s1 = s ∧ (∀ b, s = .ok b → l = []) := by
      unfold Rel pRep pPure at h
      cases s with
      | error e => exact ⟨h, fun b hb => by cases hb⟩
      | ok b => simp only at h; exact ⟨h.2, fun _ _ => h.1.symm⟩
    obtain ⟨rfl, hl⟩ := this
    cases s1 with
    | error e => exact hx
    | ok b =>
      rw [hl b rfl]
      exact hx.bind (Rel.map _ (Rel.pure [] s2))
  | k + 1, s, s1, s2, l, x, h, hx => by
    cases s with
    | error e => have := h.dead; subst this; exact hx
    | ok b =>
      unfold Rel at h
      simp only at h
      unfold pRep pBind at h
      cases hp : p b with
      | error e =>
        rw [hp] at h; simp only at h; subst h
        have := hx.dead; subst this
        refine Rel.of_err ?_
        unfold pRep pBind; rw [hp]
      | ok z =>
        obtain ⟨y, m⟩ := z
        rw [hp] at h
        simp only at h
        cases hr : pRep p k m with
        | error e =>
          rw [hr] at h; simp only at h; subst h
          have := hx.dead; subst this
          have h2 : Rel (pRep p (k + 1)) (.ok m) ([] ++ [x]) (.error e) := by
            have h3 : Rel (pRep p k) (.ok m) ([] : List α) (.error e) := Rel.of_err hr
            exact rep_snoc k h3 hx
          refine Rel.of_err ?_
          have h2 := h2.err
          unfold pRep pBind; rw [hp]; simp only; rw [h2]
        | ok z =>
          obtain ⟨ys, m2⟩ := z
          rw [hr] at h
          simp only [pPure] at h
          obtain ⟨rfl, rfl⟩ := h
          have h3 : Rel (pRep p k) (.ok m) ys (.ok m2) := Rel.of_ok hr
          have h2 := rep_snoc k h3 hx
          cases s2 with
          | error e =>
            refine Rel.of_err ?_
            have h2 := h2.err
            rw [pRep]
            unfold pBind; rw [hp]; simp only; rw [h2]
          | ok m3 =>
            refine Rel.of_ok ?_
            have h2 := h2.ok
            rw [pRep]
            unfold pBind; rw [hp]; simp only; rw [h2]; rfl
/-- where it fails early, the whole fails -/
theorem rep_more {α : Type} {p : Parser α} : ∀ (k n : Nat) (b : List Nat) (e : Nat), k ≤ n → pRep p k b = .error e → pRep p n b = .error e
  | 0, _, b, e, _, h => by simp [pRep, pPure] at h
  | k + 1, 0, b, e, hk, h => by omega
  | k + 1, n + 1, b, e, hk, h => by
    unfold pRep pBind at h ⊢
    cases hp : p b with
    | error e' => rw [hp] at h; exact h
    | ok z =>
      obtain ⟨x, m⟩ := z
      rw [hp] at h
      simp only at h ⊢
      cases hr : pRep p k m with
      | error e' =>
        rw [hr] at h
        simp only [Except.error.injEq] at h
        subst h
        rw [rep_more k n m e' (by omega) hr]
      | ok z => rw [hr] at h; simp [pPure] at h
theorem rep_err {α : Type} {p : Parser α} {k n : Nat} (hk : k ≤ n) {s : St} {l l' : List α} {e : Nat} (h : Rel (pRep p k) s l (.error e)) : Rel (pRep p n) s l' (.error e) := by
  cases s with
  | error e' => exact h
  | ok b => exact Rel.of_err (rep_more k n b e hk h.err)
end Go.Proofs.Ytkeiffccllfkpaa
