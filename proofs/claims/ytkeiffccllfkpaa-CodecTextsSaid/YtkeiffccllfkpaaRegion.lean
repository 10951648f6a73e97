/- A region that draws its order, whose operations read or make new memory: one fact for each slot, whatever the order. -/
import Derived.Test.YtkeiffccllfkpaaBase
namespace Go.Proofs.Ytkeiffccllfkpaa
open Go.RowKit

/-- what is known of a slot; it stays known while memory grows -/
structure Sp where
  on : World → Value → Prop
  mono : ∀ w w' v, w.grownBy w' none → on w v → on w' v
def Sp.is (v : Value) : Sp := ⟨fun _ x => x = v, fun _ _ _ _ h => h⟩
def Sp.any : Sp := ⟨fun _ _ => True, fun _ _ _ _ h => h⟩
def At (L : List Sp) (t : Nat) (w : World) (v : Value) : Prop := (L.getD t Sp.any).on w v

/-- what an operation says of its value and of the world behind it -/
def OpSays (P : Program) (ops : Array Oper) (o : Oper) (a : Act) (w : World) (R : Value → World → Prop) : Prop :=
  if Region.wanted o (yielded ops a.tmps) then
    match (execOp a.eval o).run P w with
    | .ok (.value v) w' => R v w'
    | .ok .skip w' => R undef w'
    | .ok (.enter f args) w' => Calls P f args w' fun e w'' => ∃ v, e = .returned v ∧ R v w''
    | _ => False
  else R undef w

theorem OpSays.wpOp {P : Program} {ops : Array Oper} {Q : Exit → Act → World → Prop} {i : Nat} {o : Oper} {a : Act} {w : World} {R : Value → World → Prop} {K : Act → World → Prop} (hi : ops[i]? = some o)
    (h : OpSays P ops o a w R) (hk : ∀ v w', R v w' → K (a.put o.dst v) w') : wpOp P ops Q i K a w := by
  unfold Go.wpOp
  simp only [hi]
  unfold OpSays at h
  split
  · rename_i hw
    rw [if_pos hw] at h
    refine .inl ?_
    unfold Oper.wp
    generalize (execOp a.eval o).run P w = r at *
    cases r with
    | ok n w' =>
      cases n <;> simp only [Oper.upon] at h ⊢
      all_goals first
        | exact h.elim
        | exact hk _ _ h
        | exact h.mono fun e w'' ⟨v, he, hr⟩ => by subst he; exact hk _ _ hr
    | halt x w' => cases x <;> exact h.elim
  · rename_i hw
    rw [if_neg hw] at h
    exact hk _ _ h

/-- the closed part: each slot is written once, whoever reads it waits for its writer, edges lead back -/
def regB (ops : Array Oper) (n : Nat) : Bool :=
  (List.range ops.size).all fun i => match ops[i]? with
    | none => true
    | some o =>
      (o.after.toList.all fun e => decide (e.on < i)) &&
      (match o.dst with | none => true | some d => decide (d < n)) &&
      (List.range ops.size).all fun j => match ops[j]? with
        | none => true
        | some oj => match oj.dst with
          | none => true
          | some d => (i == j || o.dst != some d) && (!(o.looksAt ops).contains d || o.after.toList.any fun e => e.on == j && Region.binds .any e)

theorem regB_spec {ops : Array Oper} {n : Nat} (h : regB ops n = true) {i : Nat} {o : Oper} (hi : ops[i]? = some o) :
    (∀ e ∈ o.after.toList, e.on < i) ∧ (∀ d, o.dst = some d → d < n) ∧
    (∀ j oj d, ops[j]? = some oj → oj.dst = some d → (i = j ∨ o.dst ≠ some d) ∧ (d ∈ o.looksAt ops → ∃ e ∈ o.after.toList, e.on = j ∧ Region.binds .any e = true)) := by
  have hlt : i < ops.size := (Array.getElem?_eq_some_iff.1 hi).1
  have h1 := List.all_eq_true.1 h i (List.mem_range.2 hlt)
  simp only [hi, Bool.and_eq_true] at h1
  obtain ⟨⟨h2, h3⟩, h4⟩ := h1
  refine ⟨fun e he => by simpa using List.all_eq_true.1 h2 e he, fun d hd => by simpa [hd] using h3, fun j oj d hj hd => ?_⟩
  have hjl : j < ops.size := (Array.getElem?_eq_some_iff.1 hj).1
  have h5 := List.all_eq_true.1 h4 j (List.mem_range.2 hjl)
  simp only [hj, hd, Bool.and_eq_true, Bool.or_eq_true, beq_iff_eq, bne_iff_ne, Bool.not_eq_true'] at h5
  refine ⟨h5.1, fun hl => ?_⟩
  rcases h5.2 with h6 | h6
  · rw [List.contains_iff_mem.2 hl] at h6; cases h6
  · obtain ⟨e, he, h7⟩ := List.any_eq_true.1 h6
    simp only [Bool.and_eq_true, beq_iff_eq] at h7
    exact ⟨e, he, h7⟩

theorem getD_put (a : Act) (d : Option Tmp) (v : Value) (t : Nat) (hd : ∀ k, d = some k → k < a.tmps.size) : (a.put d v).tmps.getD t undef = if d = some t then v else a.tmps.getD t undef := by
  cases d with
  | none => simp [Act.put]
  | some k =>
    have hk := hd k rfl
    simp only [Act.put, Option.some.injEq, Array.getD_eq_getD_getElem?, Array.getElem?_setIfInBounds]
    by_cases e : k = t
    · subst e; simp [hk]
    · simp [e]

theorem region_rel {P : Program} {Q : Exit → Act → World → Prop} {id : Nat} {ops : Array Oper} {a0 : Act} {w0 : World} (hm : P.follows .mixedOrders = true) (n : Nat) (L : List Sp) (hn : a0.tmps.size = n) (hB : regB ops n = true)
    (h0 : ∀ t, t < n → (∀ (i : Nat) (o : Oper), ops[i]? = some o → o.dst ≠ some t) → At L t w0 (a0.tmps.getD t undef))
    (ob : ∀ (i : Nat) (o : Oper), ops[i]? = some o → ∀ a w, w0.grownBy w none → (∀ t ∈ o.looksAt ops, t < n → At L t w (a.tmps.getD t undef)) → a.tmps.size = n →
      OpSays P ops o a w fun v w' => w.grownBy w' none ∧ ∀ d, o.dst = some d → At L d w' v)
    (hQ : ∀ a w, w0.grownBy w none → a.defers = a0.defers → a.tmps.size = n → (∀ t, t < n → At L t w (a.tmps.getD t undef)) → Q .normal a w) :
    (Code.region id ops true).wp P Q a0 w0 := by
  refine wp_region_any hm ?_
  have key : ∀ (fuel : Nat) (listed : Array Bool) (a : Act) (w : World), listed.size = ops.size → (∀ l : List Nat, l.Nodup → (∀ i ∈ l, i < ops.size ∧ listed.getD i true = false) → l.length ≤ fuel) →
      w0.grownBy w none → a.defers = a0.defers → a.tmps.size = n →
      (∀ t, t < n → ((∀ (i : Nat) (o : Oper), ops[i]? = some o → o.dst ≠ some t) ∨ ∃ (i : Nat) (o : Oper), ops[i]? = some o ∧ o.dst = some t ∧ listed.getD i false = true) → At L t w (a.tmps.getD t undef)) →
      wpAny P .any ops Q fuel listed a w := by
    intro fuel
    have done : ∀ (listed : Array Bool) (a : Act) (w : World), listed.size = ops.size → Region.ready .any ops listed = [] → w0.grownBy w none → a.defers = a0.defers → a.tmps.size = n →
      (∀ t, t < n → ((∀ (i : Nat) (o : Oper), ops[i]? = some o → o.dst ≠ some t) ∨ ∃ (i : Nat) (o : Oper), ops[i]? = some o ∧ o.dst = some t ∧ listed.getD i false = true) → At L t w (a.tmps.getD t undef)) → Q .normal a w := by
      intro listed a w hsz hr hg hd has hk
      have all : ∀ i, i < ops.size → listed.getD i false = true := by
        intro i
        induction i using Nat.strongRecOn with
        | _ i ih =>
          intro hi
          cases hl : listed.getD i false with
          | true => rfl
          | false =>
            exfalso
            have ho : ops[i]? = some ops[i] := Array.getElem?_eq_getElem hi
            have : i ∈ Region.ready .any ops listed := mem_ready.2 ⟨by
                have : i < listed.size := by omega
                simp only [Array.getD_eq_getD_getElem?, Array.getElem?_eq_getElem this, Option.getD_some] at hl ⊢
                exact hl, ops[i], ho, fun e he _ => by
                have := (regB_spec hB ho).1 e (by simpa using he)
                exact ih e.on this (by omega)⟩
            rw [hr] at this
            cases this
      refine hQ a w hg hd has fun t ht => hk t ht ?_
      by_cases hex : ∃ (i : Nat) (o : Oper), ops[i]? = some o ∧ o.dst = some t
      · obtain ⟨i, o, hi, hd⟩ := hex
        exact .inr ⟨i, o, hi, hd, all i (Array.getElem?_eq_some_iff.1 hi).1⟩
      · exact .inl fun i o hi hd => hex ⟨i, o, hi, hd⟩
    induction fuel with
    | zero =>
      intro listed a w hsz hf hg hd has hk
      have hr : Region.ready .any ops listed = [] := by
        cases hr : Region.ready .any ops listed with
        | nil => rfl
        | cons i r =>
          exfalso
          have hi : i ∈ Region.ready .any ops listed := by rw [hr]; exact List.mem_cons_self
          obtain ⟨h1, o, h2, _⟩ := mem_ready.1 hi
          have := hf [i] (by simp) (fun k hk => by simp at hk; subst hk; exact ⟨(Array.getElem?_eq_some_iff.1 h2).1, h1⟩)
          simp at this
      exact ⟨hr, done listed a w hsz hr hg hd has hk⟩
    | succ fuel ih =>
      intro listed a w hsz hf hg hd has hk
      refine ⟨fun hr => done listed a w hsz hr hg hd has hk, fun i hi => ?_⟩
      obtain ⟨h1, o, ho, hready⟩ := mem_ready.1 hi
      obtain ⟨s1, s2, s3⟩ := regB_spec hB ho
      have hlt : i < ops.size := (Array.getElem?_eq_some_iff.1 ho).1
      refine OpSays.wpOp ho (ob i o ho a w hg (fun t ht htn => hk t htn ?_) has) ?_
      · by_cases hex : ∃ (j : Nat) (oj : Oper), ops[j]? = some oj ∧ oj.dst = some t
        · obtain ⟨j, oj, hj, hdj⟩ := hex
          obtain ⟨e, he, rfl, hb⟩ := (s3 j oj t hj hdj).2 ht
          exact .inr ⟨e.on, oj, hj, hdj, hready e (by simpa using he) hb⟩
        · exact .inl fun j oj hj hdj => hex ⟨j, oj, hj, hdj⟩
      · rintro v w' ⟨hg', hv⟩
        refine ih _ _ _ (by simpa using hsz) ?_ (grown_trans hg hg') (by cases ho' : o.dst <;> simp [Act.put, hd]) (by cases ho' : o.dst <;> simp [Act.put, has]) ?_
        · intro l hnd hl
          have hil : i ∉ l := by
            intro hmem
            have := (hl i hmem).2
            rw [Array.getD_eq_getD_getElem?, Array.getElem?_setIfInBounds_self_of_lt (by omega)] at this
            cases this
          have := hf (i :: l) (List.nodup_cons.2 ⟨hil, hnd⟩) (fun k hk => by
            rcases List.mem_cons.1 hk with rfl | hk
            · exact ⟨hlt, h1⟩
            · have h2 := hl k hk
              have hne : i ≠ k := fun e => hil (e ▸ hk)
              rw [getD_set_ne true hne] at h2
              exact h2)
          simpa using this
        · intro t htn hor
          rw [getD_put a o.dst v t (fun k hk => has ▸ s2 k hk)]
          by_cases hdt : o.dst = some t
          · rw [if_pos hdt]
            exact hv t hdt
          · rw [if_neg hdt]
            refine (L.getD t Sp.any).mono _ _ _ hg' (hk t htn ?_)
            rcases hor with h | ⟨j, oj, hj, hdj, hlj⟩
            · exact .inl h
            · refine .inr ⟨j, oj, hj, hdj, ?_⟩
              have hne : i ≠ j := fun e => hdt (by subst e; rw [ho] at hj; obtain rfl := Option.some.inj hj; exact hdj)
              rwa [getD_set_ne false hne] at hlj
  refine key ops.size _ a0 { w0 with drawn := w0.drawn + 1 } (by simp) ?_ ⟨rfl, rfl, rfl, Nat.le_refl _, fun _ _ _ => rfl⟩ rfl hn ?_
  · intro l hnd hl
    have : l ⊆ List.range ops.size := fun k hk => List.mem_range.2 (hl k hk).1
    have := List.Nodup.length_le_of_subset hnd this
    simpa using this
  · intro t ht hor
    refine (L.getD t Sp.any).mono w0 _ _ ⟨rfl, rfl, rfl, Nat.le_refl _, fun _ _ _ => rfl⟩ (h0 t ht ?_)
    rcases hor with h | ⟨i, o, hi, _, hl⟩
    · exact h
    · exfalso
      have : i < ops.size := (Array.getElem?_eq_some_iff.1 hi).1
      rw [Array.getD_eq_getD_getElem?, Array.getElem?_replicate, if_pos this] at hl
      cases hl
end Go.Proofs.Ytkeiffccllfkpaa
