/- region_gen with an explicit frame. -/
import Derived.Test.YtkeiffccllfkpaaN6
namespace Go.Proofs.Ytkeiffccllfkpaa
open Go.RowKit

theorem region_genF {P : Program} {Q : Exit → Act → World → Prop} {id : Nat} {ops : List Oper} {l0 : List Value} {ds : List Deferred} {w0 : World} (hm : P.follows .mixedOrders = true) (n : Nat) (L : Nat → World → Value → Prop) (J : World → Prop) (D : Nat → World → Prop) (m : List Bool) (hJ : J w0.drew)
    (hB : regB ops.toArray n = true) (hm2 : dstsB ops n = m) (hn : l0.length = n)
    (h0 : ∀ t, t < n → L t w0.drew (l0.getD t undef) ∨ m.getD t false = true) (ob : OGAll P ops.toArray L J D n 0 ops)
    (hQ : ∀ (x : Nat → Value) w, J w → (∀ t, t < n → L t w (if m.getD t false then x t else l0.getD t undef)) → (∀ i, i < ops.length → D i w) → Q .normal ⟨(frameOf x 0 l0 m).toArray, ds⟩ w) :
    (Code.region id ops.toArray true).wp P Q ⟨l0.toArray, ds⟩ w0 := by
  have hml : m.length = n := by rw [← hm2]; simp [dstsB]
  refine region_gen hm n (fun t w v => L t w v ∧ (m.getD t false = false → v = l0.getD t undef)) J D hJ (by simpa using hn) hB ?_ (fun i o hi => ?_) (fun a w hg hd has hk hD => ?_)
  · intro t ht hnd
    have hmt : m.getD t false = false := by
      cases hmt : m.getD t false with
      | false => rfl
      | true =>
        exfalso
        rw [← hm2] at hmt
        simp only [dstsB, List.getD_eq_getElem?_getD, List.getElem?_map, List.getElem?_range ht, Option.map_some, Option.getD_some, List.any_eq_true, beq_iff_eq] at hmt
        obtain ⟨o, ho, hd⟩ := hmt
        obtain ⟨i, hi, rfl⟩ := List.getElem_of_mem ho
        exact hnd i ops[i] (by simp) hd
    have e : (⟨l0.toArray, ds⟩ : Act).tmps.getD t undef = l0.getD t undef := by simp [List.getD_eq_getElem?_getD]
    rw [e]
    refine ⟨?_, fun _ => rfl⟩
    rcases h0 t ht with h | h
    · exact h
    · rw [hmt] at h; cases h
  · have hob := ob.at i o (by simpa using hi)
    intro a w hw hl hsz
    have h1 := hob a w hw (fun t ht htn => (hl t ht htn).1) hsz
    rw [Nat.zero_add] at h1
    have hdst : ∀ d, o.dst = some d → d < n ∧ m.getD d false = true := by
      intro d hd
      have hdn := ((regB_spec hB hi).2.1 d hd)
      refine ⟨hdn, ?_⟩
      rw [← hm2]
      simp only [dstsB, List.getD_eq_getElem?_getD, List.getElem?_map, List.getElem?_range hdn, Option.map_some, Option.getD_some, List.any_eq_true, beq_iff_eq]
      exact ⟨o, List.mem_of_getElem? (by simpa using hi), hd⟩
    have conv : ∀ v w', (J w' ∧ (∀ t x, L t w x → L t w' x) ∧ (∀ j, j ≠ i → D j w → D j w') ∧ D i w' ∧ ∀ d, o.dst = some d → L d w' v) →
        (J w' ∧ (∀ t x, (L t w x ∧ (m.getD t false = false → x = l0.getD t undef)) → (L t w' x ∧ (m.getD t false = false → x = l0.getD t undef))) ∧ (∀ j, j ≠ i → D j w → D j w') ∧ D i w' ∧ ∀ d, o.dst = some d → (L d w' v ∧ (m.getD d false = false → v = l0.getD d undef))) := fun v w' h =>
      ⟨h.1, fun t x hx => ⟨h.2.1 t x hx.1, hx.2⟩, h.2.2.1, h.2.2.2.1, fun d hd => ⟨h.2.2.2.2 d hd, fun hf => by rw [(hdst d hd).2] at hf; cases hf⟩⟩
    unfold OpSays at h1 ⊢
    split
    · rename_i hwt
      rw [if_pos hwt] at h1
      generalize (execOp a.eval o).run P w = r at *
      cases r with
      | ok nx w' =>
        cases nx <;> simp only at h1 ⊢
        all_goals first
          | exact h1.elim
          | exact conv _ _ h1
          | exact h1.mono fun e w'' ⟨v, he, hr⟩ => ⟨v, he, conv _ _ hr⟩
      | halt x w' => exact h1.elim
    · rename_i hwt
      rw [if_neg hwt] at h1
      exact conv _ _ h1
  · have hget : ∀ t, t < n → a.tmps.getD t undef = if m.getD t false then a.tmps.getD t undef else l0.getD t undef := by
      intro t ht
      split
      · rfl
      · rename_i hmt; exact (hk t ht).2 (by simpa using hmt)
    have e : a = ⟨(frameOf (fun t => a.tmps.getD t undef) 0 l0 m).toArray, ds⟩ := by
      obtain ⟨tm, df⟩ := a
      simp only at hd has hget ⊢
      subst hd
      congr 1
      apply Array.ext'
      refine List.ext_getElem (by rw [frameOf_len _ _ _ _ (by omega), hn]; simpa using has) fun t h1 h2 => ?_
      have h1' : t < tm.size := by simpa using h1
      have ht : t < n := by omega
      have h3 := frameOf_get (fun t => tm.getD t undef) 0 l0 m (by omega) t (by omega)
      rw [Nat.zero_add] at h3
      have h4 := (hget t ht).trans h3.symm
      rw [Array.getD_eq_getD_getElem?, Array.getElem?_eq_getElem h1', List.getD_eq_getElem?_getD, List.getElem?_eq_getElem (by simpa using h2)] at h4
      simpa using h4
    rw [e]
    refine hQ _ w hg (fun t ht => ?_) (fun i hi => hD i (by simpa using hi))
    have h5 := (hk t ht).1
    rw [hget t ht] at h5
    exact h5
end Go.Proofs.Ytkeiffccllfkpaa
