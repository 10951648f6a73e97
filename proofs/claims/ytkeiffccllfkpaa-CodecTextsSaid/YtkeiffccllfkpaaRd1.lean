/- intIn, bytes, text of the program's reader. -/
import Derived.Test.YtkeiffccllfkpaaEnc
import Derived.Test.YtkeiffccllfkpaaRead64
namespace Go.Proofs.Ytkeiffccllfkpaa
open Go.RowKit

/-- the reader's cells, whatever its state -/
theorem RSt.row {T : TypeId} {L : Nat} {w : World} {R : Nat} {s : St} (h : RSt T L w R s) : ∃ v e, w.heap[R]? = some (.cells #[v, .int .i64 e] T (0, 0)) ∧ (∀ l, s = .ok l → e = 0 ∧ Sl w 1 v l.length (bv l) ∧ LoR v L R ∧ (∀ b ∈ l, b < 256) ∧ l.length ≤ 1099511627776) ∧ (∀ n, s = .error n → e = (n : Int) ∧ n ≠ 0) := by
  obtain ⟨v, l, h1, h2, h3, h4, h5⟩ := h
  cases s with
  | ok r => obtain ⟨rfl, h1⟩ := h1; exact ⟨v, 0, h1, fun l hl => (by cases hl; exact ⟨rfl, h2, h3, h4, h5⟩), fun n hn => (by cases hn)⟩
  | error e => exact ⟨v, e, h1.2.2, fun l hl => (by cases hl), fun n hn => (by cases hn; exact ⟨rfl, h1.1⟩)⟩
theorem RSt.fail' {T : TypeId} {L : Nat} {w : World} {R : Nat} {l : List Nat} (h : RSt T L w R (.ok l)) (e : Nat) (he : e ≠ 0) (he2 : e ≤ 200) : RSt T L (w.setCell ⟨R, 1, none⟩ (.int .i64 e)) R (.error e) := by
  obtain ⟨v, l', ⟨rfl, h1⟩, h2, h3, h4, h5⟩ := h
  exact RSt.fail h1 h2 h3 h4 h5 e he he2
theorem Rel.inIn {a b n : Int} {s s1 : St} (h : Rel pInt s n s1) : (∀ r, s1 = .ok r → a ≤ n ∧ n ≤ b → Rel (pIntIn a b) s n s1) ∧ (∀ r, s1 = .ok r → (n < a ∨ b < n) → ∀ x, Rel (pIntIn a b) s x (.error 1)) ∧ (∀ e, s1 = .error e → ∀ x, Rel (pIntIn a b) s x s1) := by
  refine ⟨fun r hr hn => ?_, fun r hr hn x => ?_, fun e he x => ?_⟩
  · subst hr
    cases s with
    | error e => exact absurd h.dead (by simp)
    | ok l => refine Rel.of_ok ?_; have := h.ok; unfold pIntIn; rw [this]; simp only; rw [if_neg (by omega)]
  · subst hr
    cases s with
    | error e => exact absurd h.dead (by simp)
    | ok l => refine Rel.of_err ?_; have := h.ok; unfold pIntIn; rw [this]; simp only; rw [if_pos hn]
  · subst he
    cases s with
    | error e' => exact h
    | ok l => refine Rel.of_err ?_; have := h.err; unfold pIntIn; rw [this]

set_option maxRecDepth 100000 in
set_option maxHeartbeats 1000000 in
theorem intIn_walk {L : Nat} (R : Nat) (s : St) (a b : Int) (w : World) (h : RSt 201 L w R s) :
    Calls Try.prog 169 #[.pointer (some ⟨R, 0, none⟩), .int .i64 a, .int .i64 b] w (RdPost 201 L w R (pIntIn a b) s repInt) := by
  go_enter Try.func169, Try.ntmps169
  go_wp2_with fail
  refine (int_walk R s _ h).mono ?_
  rintro e w1 ⟨v, n, s1, rfl, ⟨rfl, hn⟩, hg, hst, hrel⟩
  obtain ⟨r1, r2, r3⟩ := hrel.inIn (a := a) (b := b)
  have HG := hid hg
  have HST := hid hst
  cases s1 with
  | error er =>
    obtain ⟨v3, l3, ⟨he, he2, hrow⟩, _⟩ := hst
    obtain ⟨c0, c1, f0, f1⟩ := row2 hrow
    have be : ((er : Int) == 0) = false := beqF (by omega)
    have be' : ((er : Int) != 0) = true := by simp; omega
    have H3 := hid (r3 er rfl 0)
    clear r1 r2 r3 hrel hg hrow he he2
    go_wp2
    go_ret
    exact ⟨_, 0, _, rfl, ⟨rfl, by decide, by decide⟩, HG.out, HST.out, H3.out⟩
  | ok l =>
    obtain ⟨v3, l3, ⟨rfl, hrow⟩, _⟩ := hst
    obtain ⟨c0, c1, f0, f1⟩ := row2 hrow
    have H1 := hid (r1 l rfl)
    have H2 := hid (r2 l rfl)
    clear r1 r2 r3 hrel hg
    have HR := hid hrow
    have fin : n < a ∨ b < n → RdPost 201 L w R (pIntIn a b) s repInt (.returned (.int .i64 0)) (w1.setCell ⟨R, 1, none⟩ (.int .i64 1)) := fun hb =>
      ⟨_, 0, .error 1, rfl, ⟨rfl, by decide, by decide⟩, grown_trans HG.out (grown_setCell w1 ⟨R, 1, none⟩ _), HST.out.fail' 1 (by decide) (by decide), H2.out hb 0⟩
    have FIN := hid fin
    clear fin
    by_cases ha : n < a
    · have d1 : decide (n < a) = true := decide_eq_true ha
      have F := hid (FIN.out (.inl ha))
      clear FIN ha
      go_wp2_with (go_at_call 166; refine (fail_walk _ _ _ _ _ hrow).mono ?_; rintro e w' ⟨rfl, rfl⟩)
      go_ret
      exact F.out
    · have d1 : decide (n < a) = false := decide_eq_false ha
      by_cases hb : b < n
      · have d2 : decide (b < n) = true := decide_eq_true hb
        have F := hid (FIN.out (.inr hb))
        clear FIN ha hb
        go_wp2_with (go_at_call 166; refine (fail_walk _ _ _ _ _ hrow).mono ?_; rintro e w' ⟨rfl, rfl⟩)
        go_ret
        exact F.out
      · have d2 : decide (b < n) = false := decide_eq_false hb
        have F := hid (H1.out ⟨by omega, by omega⟩)
        clear FIN ha hb
        go_wp2
        go_ret
        exact ⟨_, n, _, rfl, ⟨rfl, hn⟩, HG.out, HST.out, F.out⟩

theorem Sl.drop {w : World} {ao : Option Addr} {cap k : Nat} {l : List Nat} (h : Sl w 1 (.slice ao l.length cap) l.length (bv l)) (hk : k ≤ l.length) :
    Sl w 1 (.slice (Option.map (fun x => x.add k) ao) (l.length - k) (cap - k)) (l.drop k).length (bv (l.drop k)) ∧ (.slice (Option.map (fun x => x.add k) ao) (l.length - k) (cap - k) : Value).ownBlock = (.slice ao l.length cap : Value).ownBlock := by
  obtain ⟨hl, ao', cap', hv, h1, h2, h3, h4⟩ := h
  simp only [Value.slice.injEq] at hv
  obtain ⟨rfl, _, rfl⟩ := hv
  have hadd : ∀ a : Addr, a.spot = none → (a.add k).spot = none ∧ (a.add k).block = a.block ∧ (a.add k).off = a.off + k := by
    intro a ha
    unfold Addr.add
    split
    · rename_i h0; subst h0; exact ⟨ha, rfl, rfl⟩
    · exact ⟨rfl, rfl, rfl⟩
  refine ⟨⟨by simp [bv], _, _, by rw [List.length_drop], by simp; omega, by omega, fun h => ?_, fun a ha => ?_⟩, ?_⟩
  · cases ao with
    | none => have := h3 rfl; omega
    | some a => cases h
  · cases ao with
    | none => cases ha
    | some b =>
      obtain ⟨hs, hc⟩ := h4 b rfl
      obtain ⟨q1, q2, q3⟩ := hadd b hs
      obtain rfl := Option.some.inj ha
      refine ⟨q1, fun j u hu => ?_⟩
      have := hc (k + j) u (by rw [← hu]; simp [bv])
      rw [q2, q3]
      simpa [Nat.add_assoc] using this
  · cases ao with
    | none => rfl
    | some b => simp [Value.ownBlock, (hadd b (h4 b rfl).1).2.1]
theorem Sl.drop0 {w : World} {ao : Option Addr} {k cap : Nat} {l : List Nat} (h : Sl w 1 (.slice ao l.length cap) l.length (bv l)) (hk : k ≤ l.length) (hck : cap = k) :
    Sl w 1 (.slice ao (l.length - k) 0) (l.drop k).length (bv (l.drop k)) ∧ (.slice ao (l.length - k) 0 : Value).ownBlock = (.slice ao l.length cap : Value).ownBlock := by
  subst hck
  obtain ⟨hl, ao', cap', hv, h1, h2, h3, h4⟩ := h
  simp only [Value.slice.injEq] at hv
  obtain ⟨rfl, _, rfl⟩ := hv
  have e : l.drop cap = [] := List.drop_of_length_le (by omega)
  refine ⟨?_, by cases ao <;> rfl⟩
  rw [e]
  refine ⟨rfl, ao, 0, by simp; omega, Nat.le_refl _, Nat.zero_le _, fun _ => rfl, fun a ha => ⟨(h4 a ha).1, fun j u hu => by simp at hu⟩⟩
theorem Sl.take {w : World} {ao : Option Addr} {cap k : Nat} {l : List Nat} (h : Sl w 1 (.slice ao l.length cap) l.length (bv l)) (hk : k ≤ l.length) :
    Sl w 1 (.slice ao k k) (l.take k).length (bv (l.take k)) ∧ (.slice ao k k : Value).ownBlock = (.slice ao l.length cap : Value).ownBlock := by
  obtain ⟨hl, ao', cap', hv, h1, h2, h3, h4⟩ := h
  simp only [Value.slice.injEq] at hv
  obtain ⟨rfl, _, rfl⟩ := hv
  have e : (l.take k).length = k := by simp; omega
  refine ⟨?_, by cases ao <;> rfl⟩
  rw [e]
  refine ⟨by rw [bv_length, e]; omega, ao, k, rfl, Nat.le_refl _, by omega, fun h => by have := h3 h; omega, fun a ha => ⟨(h4 a ha).1, fun j u hu => (h4 a ha).2 j u ?_⟩⟩
  have hj := (List.getElem?_eq_some_iff.1 hu).1
  rw [bv_length, e] at hj
  rw [← hu]
  simp [bv, List.getElem?_take]
  intro hjj; omega
theorem RSt.next' {T : TypeId} {L : Nat} {w : World} {R : Nat} {l l' : List Nat} (h : RSt T L w R (.ok l)) (hl' : ∀ b ∈ l', b < 256) (hn : l'.length ≤ l.length) {v' : Value} (hv : Sl w 1 v' l'.length (bv l')) (hvb : LoR v' L R) : RSt T L (w.setCell ⟨R, 0, none⟩ v') R (.ok l') := by
  obtain ⟨v, l0, ⟨rfl, h1⟩, h2, h3, h4, h5⟩ := h
  exact RSt.next h1 hv hvb hl' (by omega)

def repBytes (w : World) (v : Value) (x : List Nat) : Prop := Sl w 1 v x.length (bv x) ∧ (∀ b ∈ x, b < 256) ∧ x.length ≤ 1099511627776
theorem bytes_err {n : Nat} {s : St} {e : Nat} (h : s = .error e) (x : List Nat) : Rel (pBytes n) s x s := by subst h; rfl

set_option maxRecDepth 100000 in
set_option maxHeartbeats 1000000 in
theorem bytes_walk {L : Nat} (R : Nat) (s : St) (n : Int) (w : World) (h : RSt 201 L w R s) (hn : I64 n) (hs : ∀ l, s = .ok l → 0 ≤ n) :
    Calls Try.prog 168 #[.pointer (some ⟨R, 0, none⟩), .int .i64 n] w (RdPost 201 L w R (pBytes n.toNat) s repBytes) := by
  have HST := hid h
  cases s with
  | error er =>
    obtain ⟨v3, l3, ⟨he, he2, hrow⟩, _⟩ := h
    obtain ⟨c0, c1, f0, f1⟩ := row2 hrow
    have be : ((er : Int) == 0) = false := beqF (by omega)
    have be' : ((er : Int) != 0) = true := by simp; omega
    clear hrow he he2 hs hn
    go_enter Try.func168, Try.ntmps168
    go_wp2
    go_ret
    exact ⟨_, [], _, rfl, ⟨Sl.nil _ _, by simp⟩, World.grownBy.refl _ _, HST.out, rfl⟩
  | ok l =>
    obtain ⟨v3, l3, ⟨rfl, hrow⟩, hsl, hvb, hb, hl⟩ := h
    obtain ⟨c0, c1, f0, f1⟩ := row2 hrow
    obtain ⟨k, rfl⟩ := Int.eq_ofNat_of_zero_le (hs _ rfl)
    clear hs
    rw [Int.toNat_natCast]
    obtain ⟨ao, cap, rfl, hnc, hcm⟩ := hsl.shape
    by_cases hk : l.length < k
    · have d1 : decide (l.length < k) = true := decide_eq_true hk
      have HE := hid hk
      clear hk
      go_enter Try.func168, Try.ntmps168
      go_wp2_with (go_at_call 166; refine (fail_walk _ _ _ _ _ hrow).mono ?_; rintro e w' ⟨rfl, rfl⟩)
      go_ret
      exact ⟨_, [], .error 100, rfl, ⟨Sl.nil _ _, by simp⟩, grown_setCell w ⟨R, 1, none⟩ _, HST.out.fail' 100 (by decide) (by decide), Rel.of_err (by unfold pBytes; rw [if_neg (by have := HE.out; omega)])⟩
    · have d1 : decide (l.length < k) = false := decide_eq_false hk
      have hkl : k ≤ l.length := by omega
      clear hk
      go_enter Try.func168, Try.ntmps168
      go_wp2
      all_goals go_ret
      all_goals
        have hb2 : ∀ b ∈ l.drop k, b < 256 := fun b hb' => hb b (List.mem_of_mem_drop hb')
        have hb1 : ∀ b ∈ l.take k, b < 256 := fun b hb' => hb b (List.mem_of_mem_take hb')
        obtain ⟨t1, t2⟩ := hsl.take hkl
        have hvt := LoR.of_eq t2 hvb
      · obtain ⟨q1, q2⟩ := hsl.drop0 hkl (by assumption)
        have hg := grown_setCell w ⟨R, 0, none⟩ (.slice ao (l.length - k) 0)
        exact ⟨_, l.take k, .ok (l.drop k), rfl, ⟨t1.kept hg (.inr (hvt.ne (Nat.le_refl _))), hb1, by rw [List.length_take]; omega⟩, hg, HST.out.next' hb2 (by simp) q1 (LoR.of_eq q2 hvb), Rel.of_ok (by unfold pBytes; rw [if_pos hkl])⟩
      · obtain ⟨q1, q2⟩ := hsl.drop hkl
        have hg := grown_setCell w ⟨R, 0, none⟩ (.slice (Option.map (fun x => x.add k) ao) (l.length - k) (cap - k))
        exact ⟨_, l.take k, .ok (l.drop k), rfl, ⟨t1.kept hg (.inr (hvt.ne (Nat.le_refl _))), hb1, by rw [List.length_take]; omega⟩, hg, HST.out.next' hb2 (by simp) q1 (LoR.of_eq q2 hvb), Rel.of_ok (by unfold pBytes; rw [if_pos hkl])⟩

def repText (_ : World) (v : Value) (t : ByteArray) : Prop := v = .string t ∧ t.size ≤ 1099511627776
theorem inIn_ok {a b n : Int} {s : St} {r : List Nat} (h : Rel (pIntIn a b) s n (.ok r)) : a ≤ n ∧ n ≤ b := by
  cases s with
  | error e => exact absurd h.dead (by simp)
  | ok l =>
    have h := h.ok
    unfold pIntIn at h
    cases hp : pInt l with
    | error e => rw [hp] at h; cases h
    | ok z =>
      obtain ⟨m, q⟩ := z
      rw [hp] at h
      simp only at h
      split at h
      · cases h
      · simp only [Except.ok.injEq, Prod.mk.injEq] at h
        omega
set_option maxRecDepth 100000 in
theorem text_walk {L : Nat} (R : Nat) (s : St) (most : Int) (w : World) (h : RSt 201 L w R s) (_ : I64 most) :
    Calls Try.prog 97 #[.pointer (some ⟨R, 0, none⟩), .int .i64 most] w (RdPost 201 L w R (pText most) s repText) := by
  go_enter Try.func97, Try.ntmps97
  go_wp2_with fail
  refine (intIn_walk R s 0 most _ h).mono ?_
  rintro e w1 ⟨v, n, s1, rfl, ⟨rfl, hn⟩, hg, hst, hrel⟩
  have HR := hid hrel
  have HG := hid hg
  have hpos : ∀ l, s1 = .ok l → 0 ≤ n := fun l hl => by subst hl; exact (inIn_ok hrel).1
  clear hrel hg
  go_wp2_with fail
  refine (bytes_walk R s1 n _ hst hn hpos).mono ?_
  rintro e w2 ⟨v2, x, s2, rfl, ⟨hx, hxb, hxl⟩, hg2, hst2, hrel2⟩
  have hc := run_conv (P := Try.prog) 22 9 5 Try.underlying22 Try.underlying5 Try.underlying9 hx
  have H2 := hid hrel2
  have HG2 := hid hg2
  have HST2 := hid hst2
  have HX := hid hx
  clear hrel2 hg2 hst2 hx hpos hst
  go_wp2
  go_ret
  exact ⟨_, bs x, s2, rfl, ⟨rfl, by rw [bs_size]; exact hxl⟩, grown_trans HG.out HG2.out, HST2.out, HR.out.bind (H2.out.bind (Rel.pure _ _))⟩
end Go.Proofs.Ytkeiffccllfkpaa
