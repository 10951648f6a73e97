/- A region that draws its order and writes: a fact for each slot and one for each write. -/
import Derived.Test.YtkeiffccllfkpaaRegion
namespace Go.Proofs.Ytkeiffccllfkpaa
open Go.RowKit

/-- the same where operations may write: J holds throughout, D i is what operation i leaves in memory; each step keeps what is known of the other slots and operations -/
theorem region_gen {P : Program} {Q : Exit → Act → World → Prop} {id : Nat} {ops : Array Oper} {a0 : Act} {w0 : World} (hm : P.follows .mixedOrders = true) (n : Nat) (L : Nat → World → Value → Prop) (J : World → Prop) (D : Nat → World → Prop) (hJ : J w0.drew) (hn : a0.tmps.size = n) (hB : regB ops n = true)
    (h0 : ∀ t, t < n → (∀ (i : Nat) (o : Oper), ops[i]? = some o → o.dst ≠ some t) → L t w0.drew (a0.tmps.getD t undef))
    (ob : ∀ (i : Nat) (o : Oper), ops[i]? = some o → ∀ a w, J w → (∀ t ∈ o.looksAt ops, t < n → L t w (a.tmps.getD t undef)) → a.tmps.size = n →
      OpSays P ops o a w fun v w' => J w' ∧ (∀ t x, L t w x → L t w' x) ∧ (∀ j, j ≠ i → D j w → D j w') ∧ D i w' ∧ ∀ d, o.dst = some d → L d w' v)
    (hQ : ∀ a w, J w → a.defers = a0.defers → a.tmps.size = n → (∀ t, t < n → L t w (a.tmps.getD t undef)) → (∀ i, i < ops.size → D i w) → Q .normal a w) :
    (Code.region id ops true).wp P Q a0 w0 := by
  refine wp_region_any hm ?_
  have key : ∀ (fuel : Nat) (listed : Array Bool) (a : Act) (w : World), listed.size = ops.size → (∀ l : List Nat, l.Nodup → (∀ i ∈ l, i < ops.size ∧ listed.getD i true = false) → l.length ≤ fuel) →
      J w → a.defers = a0.defers → a.tmps.size = n →
      (∀ t, t < n → ((∀ (i : Nat) (o : Oper), ops[i]? = some o → o.dst ≠ some t) ∨ ∃ (i : Nat) (o : Oper), ops[i]? = some o ∧ o.dst = some t ∧ listed.getD i false = true) → L t w (a.tmps.getD t undef)) → (∀ i, i < ops.size → listed.getD i false = true → D i w) →
      wpAny P .any ops Q fuel listed a w := by
    intro fuel
    have done : ∀ (listed : Array Bool) (a : Act) (w : World), listed.size = ops.size → Region.ready .any ops listed = [] → J w → a.defers = a0.defers → a.tmps.size = n →
      (∀ t, t < n → ((∀ (i : Nat) (o : Oper), ops[i]? = some o → o.dst ≠ some t) ∨ ∃ (i : Nat) (o : Oper), ops[i]? = some o ∧ o.dst = some t ∧ listed.getD i false = true) → L t w (a.tmps.getD t undef)) → (∀ i, i < ops.size → listed.getD i false = true → D i w) → Q .normal a w := by
      intro listed a w hsz hr hg hd has hk hD
      have all : ∀ i, i < ops.size → listed.getD i false = true := by
        intro i
        induction i using Nat.strongRecOn with
        | _ i ih =>
          intro hi
          cases hl : listed.getD i false with
          | true => rfl
          | false =>
            exfalso
            have ho : ops[i]? = some ops[i] := Array.getElem?_eq_getElem hi
            have : i ∈ Region.ready .any ops listed := mem_ready.2 ⟨by
                have : i < listed.size := by omega
                simp only [Array.getD_eq_getD_getElem?, Array.getElem?_eq_getElem this, Option.getD_some] at hl ⊢
                exact hl, ops[i], ho, fun e he _ => by
                have := (regB_spec hB ho).1 e (by simpa using he)
                exact ih e.on this (by omega)⟩
            rw [hr] at this
            cases this
      refine hQ a w hg hd has (fun t ht => hk t ht ?_) (fun i hi => hD i hi (all i hi))
      by_cases hex : ∃ (i : Nat) (o : Oper), ops[i]? = some o ∧ o.dst = some t
      · obtain ⟨i, o, hi, hd⟩ := hex
        exact .inr ⟨i, o, hi, hd, all i (Array.getElem?_eq_some_iff.1 hi).1⟩
      · exact .inl fun i o hi hd => hex ⟨i, o, hi, hd⟩
    induction fuel with
    | zero =>
      intro listed a w hsz hf hg hd has hk hD
      have hr : Region.ready .any ops listed = [] := by
        cases hr : Region.ready .any ops listed with
        | nil => rfl
        | cons i r =>
          exfalso
          have hi : i ∈ Region.ready .any ops listed := by rw [hr]; exact List.mem_cons_self
          obtain ⟨h1, o, h2, _⟩ := mem_ready.1 hi
          have := hf [i] (by simp) (fun k hk => by simp at hk; subst hk; exact ⟨(Array.getElem?_eq_some_iff.1 h2).1, h1⟩)
          simp at this
      exact ⟨hr, done listed a w hsz hr hg hd has hk hD⟩
    | succ fuel ih =>
      intro listed a w hsz hf hg hd has hk hD
      refine ⟨fun hr => done listed a w hsz hr hg hd has hk hD, fun i hi => ?_⟩
      obtain ⟨h1, o, ho, hready⟩ := mem_ready.1 hi
      obtain ⟨s1, s2, s3⟩ := regB_spec hB ho
      have hlt : i < ops.size := (Array.getElem?_eq_some_iff.1 ho).1
      refine OpSays.wpOp ho (ob i o ho a w hg (fun t ht htn => hk t htn ?_) has) ?_
      · by_cases hex : ∃ (j : Nat) (oj : Oper), ops[j]? = some oj ∧ oj.dst = some t
        · obtain ⟨j, oj, hj, hdj⟩ := hex
          obtain ⟨e, he, rfl, hb⟩ := (s3 j oj t hj hdj).2 ht
          exact .inr ⟨e.on, oj, hj, hdj, hready e (by simpa using he) hb⟩
        · exact .inl fun j oj hj hdj => hex ⟨j, oj, hj, hdj⟩
      · rintro v w' ⟨hg', hkp, hkd, hdi, hv⟩
        refine ih _ _ _ (by simpa using hsz) ?_ hg' (by cases ho' : o.dst <;> simp [Act.put, hd]) (by cases ho' : o.dst <;> simp [Act.put, has]) ?_ ?_
        · intro l hnd hl
          have hil : i ∉ l := by
            intro hmem
            have := (hl i hmem).2
            rw [Array.getD_eq_getD_getElem?, Array.getElem?_setIfInBounds_self_of_lt (by omega)] at this
            cases this
          have := hf (i :: l) (List.nodup_cons.2 ⟨hil, hnd⟩) (fun k hk => by
            rcases List.mem_cons.1 hk with rfl | hk
            · exact ⟨hlt, h1⟩
            · have h2 := hl k hk
              have hne : i ≠ k := fun e => hil (e ▸ hk)
              rw [getD_set_ne true hne] at h2
              exact h2)
          simpa using this
        · intro t htn hor
          rw [getD_put a o.dst v t (fun k hk => has ▸ s2 k hk)]
          by_cases hdt : o.dst = some t
          · rw [if_pos hdt]
            exact hv t hdt
          · rw [if_neg hdt]
            refine hkp _ _ (hk t htn ?_)
            rcases hor with h | ⟨j, oj, hj, hdj, hlj⟩
            · exact .inl h
            · refine .inr ⟨j, oj, hj, hdj, ?_⟩
              have hne : i ≠ j := fun e => hdt (by subst e; rw [ho] at hj; obtain rfl := Option.some.inj hj; exact hdj)
              rwa [getD_set_ne false hne] at hlj
        · intro j hj hlj
          by_cases hij : i = j
          · subst hij; exact hdi
          · refine hkd j (fun e => hij e.symm) (hD j hj ?_)
            rwa [getD_set_ne false hij] at hlj
  refine key ops.size _ a0 w0.drew (by simp) ?_ hJ rfl hn ?_ ?_
  · intro l hnd hl
    have : l ⊆ List.range ops.size := fun k hk => List.mem_range.2 (hl k hk).1
    have := List.Nodup.length_le_of_subset hnd this
    simpa using this
  · intro t ht hor
    refine h0 t ht ?_
    rcases hor with h | ⟨i, o, hi, _, hl⟩
    · exact h
    · exfalso
      have : i < ops.size := (Array.getElem?_eq_some_iff.1 hi).1
      rw [Array.getD_eq_getD_getElem?, Array.getElem?_replicate, if_pos this] at hl
      cases hl
  · intro i hi hl
    exfalso
    rw [Array.getD_eq_getD_getElem?, Array.getElem?_replicate, if_pos hi] at hl
    cases hl
end Go.Proofs.Ytkeiffccllfkpaa
