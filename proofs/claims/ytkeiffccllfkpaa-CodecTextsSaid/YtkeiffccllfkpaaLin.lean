/- A region that draws its order and hands a row on from operation to operation: what is owned is used up once, all else stays known. -/
import Derived.Test.YtkeiffccllfkpaaRegion
namespace Go.Proofs.Ytkeiffccllfkpaa
open Go.RowKit

/-- from w to w' new blocks came, and at most one row of type E, from B on, was written -/
def URow (E : TypeId) (B : Nat) (w w' : World) : Prop := ∃ row : Option Nat, w.grownBy w' row ∧ ∀ k, row = some k → B ≤ k ∧ ∃ c fr, w.heap[k]? = some (.cells c E fr)
theorem URow.quiet {E : TypeId} {B : Nat} {w w' : World} (h : w.grownBy w' none) : URow E B w w' := ⟨Option.none, h, fun k hk => by cases hk⟩
theorem URow.below {E : TypeId} {B : Nat} {w w' : World} (h : URow E B w w') (hB : B ≤ w.heap.size) : Below B w w' := by
  obtain ⟨row, hg, hr⟩ := h
  exact (Below.refl B w).grown hg hB fun k hk => (hr k hk).1
theorem URow.row {E T : TypeId} {B : Nat} {w w' : World} (h : URow E B w w') (hne : T ≠ E) {k : Nat} {c : Array Value} {fr : Nat × Nat} (hk : w.heap[k]? = some (.cells c T fr)) : w'.heap[k]? = some (.cells c T fr) := by
  obtain ⟨row, hg, hr⟩ := h
  refine (hg.block k (Array.getElem?_eq_some_iff.1 hk).1 fun e => ?_).trans hk
  obtain ⟨_, c', fr', h'⟩ := hr k e.symm
  rw [hk] at h'
  simp at h'
  exact hne h'.2.1
theorem URow.size {E : TypeId} {B : Nat} {w w' : World} (h : URow E B w w') : w.heap.size ≤ w'.heap.size := by obtain ⟨_, hg, _⟩ := h; exact hg.size

/-- what is known of a slot: used up by the next write (lin) or not -/
structure Fk (E : TypeId) (B : Nat) where
  on : World → Value → Prop
  lin : Bool
  m0 : ∀ w w' v, w.grownBy w' none → on w v → on w' v
  m1 : lin = false → ∀ w w' v, URow E B w w' → on w v → on w' v

/-- operation j is ahead of operation i -/
def ahead (ops : Array Oper) : Nat → Nat → Nat → Bool
  | 0, _, _ => false
  | f + 1, i, j => match ops[i]? with
    | none => false
    | some o => o.after.toList.any fun e => Region.binds .any e && (e.on == j || ahead ops f e.on j)
def writer (ops : Array Oper) (t : Nat) : Option Nat := (List.range ops.size).find? fun i => match ops[i]? with | none => false | some o => o.dst == some t
def looks (ops : Array Oper) (i t : Nat) : Bool := match ops[i]? with | none => false | some o => (o.looksAt ops).contains t
/-- operation i reads what the region itself wrote into t -/
def late (ops : Array Oper) (i t : Nat) : Bool := match writer ops t with | none => false | some j => ahead ops ops.size i j
/-- the closed part -/
def linB (ops : Array Oper) (n : Nat) (q : List Bool) (l0 l1 : List Bool) (E : List Nat) : Bool :=
  ((List.range ops.size).all fun i => match ops[i]? with
    | none => true
    | some o => (o.after.toList.all fun e => decide (e.on < i)) && (match o.dst with | none => true | some d => decide (d < n) && writer ops d == some i) &&
      ((List.range n).all fun t => !looks ops i t || match writer ops t with | none => true | some j => j == i || ahead ops ops.size i j || ahead ops ops.size j i) &&
      (q.getD i false || (List.range n).all fun t =>
        (!l0.getD t false || (List.range ops.size).all fun k => !looks ops k t || late ops k t || k == i || ahead ops ops.size i k) &&
        (!l1.getD t false || match writer ops t with
          | none => true
          | some j => j == i || ahead ops ops.size j i || (List.range ops.size).all fun k => !looks ops k t || !late ops k t || k == i || ahead ops ops.size i k))) &&
  E.all fun t => decide (t < n) && match writer ops t with
    | none => !l0.getD t false || (List.range ops.size).all fun i => q.getD i false
    | some j => !l1.getD t false || (List.range ops.size).all fun i => q.getD i false || i == j || ahead ops ops.size j i

theorem ahead_closed {ops : Array Oper} {S : Nat → Bool} (hS : ∀ (i : Nat) (o : Oper), S i = true → ops[i]? = some o → ∀ e ∈ o.after.toList, Region.binds .any e = true → S e.on = true) : ∀ (f i j : Nat), ahead ops f i j = true → S i = true → S j = true
  | 0, i, j, h, _ => by simp [ahead] at h
  | f + 1, i, j, h, hi => by
    unfold ahead at h
    split at h
    · cases h
    · rename_i o ho
      obtain ⟨e, he, h⟩ := List.any_eq_true.1 h
      simp only [Bool.and_eq_true, Bool.or_eq_true, beq_iff_eq] at h
      have := hS i o hi ho e he h.1
      rcases h.2 with h2 | h2
      · rw [← h2]; exact this
      · exact ahead_closed hS f e.on j h2 this
theorem ahead_lt {ops : Array Oper} (hb : ∀ (i : Nat) (o : Oper), ops[i]? = some o → ∀ e ∈ o.after.toList, e.on < i) : ∀ (f i j : Nat), ahead ops f i j = true → j < i
  | 0, i, j, h => by simp [ahead] at h
  | f + 1, i, j, h => by
    unfold ahead at h
    split at h
    · cases h
    · rename_i o ho
      obtain ⟨e, he, h⟩ := List.any_eq_true.1 h
      simp only [Bool.and_eq_true, Bool.or_eq_true, beq_iff_eq] at h
      have := hb i o ho e he
      rcases h.2 with h2 | h2
      · omega
      · have := ahead_lt hb f e.on j h2; omega
theorem writer_spec {ops : Array Oper} {t j : Nat} (h : writer ops t = some j) : ∃ o, ops[j]? = some o ∧ o.dst = some t := by
  unfold writer at h
  have h1 := List.find?_some h
  split at h1
  · cases h1
  · rename_i o ho
    exact ⟨o, ho, by simpa using h1⟩
theorem writer_none {ops : Array Oper} {t : Nat} (h : writer ops t = none) {i : Nat} {o : Oper} (hi : ops[i]? = some o) : o.dst ≠ some t := by
  unfold writer at h
  have := List.find?_eq_none.1 h i (List.mem_range.2 (Array.getElem?_eq_some_iff.1 hi).1)
  simp only [hi] at this
  simpa using this

theorem region_lin {P : Program} {Q : Exit → Act → World → Prop} {id : Nat} {ops : Array Oper} {a0 : Act} {w0 : World} (hm : P.follows .mixedOrders = true) (E : TypeId) (B n : Nat) (q l0 l1 : List Bool) (fin : List Nat) (L0 L1 : Nat → Fk E B) (J : World → Prop)
    (hJm : ∀ w w', URow E B w w' → J w → J w') (hJ : J w0) (hn : a0.tmps.size = n) (hB : linB ops n q l0 l1 fin = true)
    (hl0 : ∀ t, t < n → (L0 t).lin = l0.getD t false) (hl1 : ∀ t, t < n → (L1 t).lin = l1.getD t false)
    (h0 : ∀ t, t < n → (L0 t).on w0 (a0.tmps.getD t undef))
    (ob : ∀ (i : Nat) (o : Oper), ops[i]? = some o → ∀ a w, J w → (∀ t ∈ o.looksAt ops, t < n → (if late ops i t then L1 t else L0 t).on w (a.tmps.getD t undef)) → a.tmps.size = n →
      OpSays P ops o a w fun v w' => (if q.getD i false then w.grownBy w' none else URow E B w w') ∧ ∀ d, o.dst = some d → (L1 d).on w' v)
    (hQ : ∀ a w, J w → a.defers = a0.defers → a.tmps.size = n → (∀ t, (∀ (i : Nat) (o : Oper), ops[i]? = some o → o.dst ≠ some t) → a.tmps.getD t undef = a0.tmps.getD t undef) → (∀ t ∈ fin, (match writer ops t with | some _ => L1 t | none => L0 t).on w (a.tmps.getD t undef)) → Q .normal a w) :
    (Code.region id ops true).wp P Q a0 w0 := by
  unfold linB at hB
  rw [Bool.and_eq_true] at hB
  obtain ⟨hB1, hB2⟩ := hB
  have spec : ∀ (i : Nat) (o : Oper), ops[i]? = some o → (∀ e ∈ o.after.toList, e.on < i) ∧ (∀ d, o.dst = some d → d < n ∧ writer ops d = some i) ∧
      (∀ t, t < n → t ∈ o.looksAt ops → ∀ j, writer ops t = some j → j = i ∨ ahead ops ops.size i j = true ∨ ahead ops ops.size j i = true) ∧
      (q.getD i false = false → ∀ t, t < n → (l0.getD t false = true → ∀ (k : Nat) (ok : Oper), ops[k]? = some ok → t ∈ ok.looksAt ops → late ops k t = false → k = i ∨ ahead ops ops.size i k = true) ∧
        (l1.getD t false = true → ∀ j, writer ops t = some j → j = i ∨ ahead ops ops.size j i = true ∨ ∀ (k : Nat) (ok : Oper), ops[k]? = some ok → t ∈ ok.looksAt ops → late ops k t = true → k = i ∨ ahead ops ops.size i k = true)) := by
    intro i o ho
    have hlt := (Array.getElem?_eq_some_iff.1 ho).1
    have h := List.all_eq_true.1 hB1 i (List.mem_range.2 hlt)
    simp only [ho, Bool.and_eq_true] at h
    obtain ⟨⟨⟨h1, h2⟩, h3⟩, h4⟩ := h
    have lk : ∀ (k : Nat) (ok : Oper) (t : Nat), ops[k]? = some ok → t ∈ ok.looksAt ops → looks ops k t = true := fun k ok t hk ht => by
      unfold looks; rw [hk]; simpa using ht
    refine ⟨fun e he => by simpa using List.all_eq_true.1 h1 e he, fun d hd => ?_, fun t ht hl j hj => ?_, fun hq t ht => ⟨fun hl k ok hk hkt hla => ?_, fun hl j hj => ?_⟩⟩
    · rw [hd] at h2
      simpa using h2
    · have := List.all_eq_true.1 h3 t (List.mem_range.2 ht)
      rw [lk i o t ho hl] at this
      simp only [Bool.not_true, Bool.false_or, hj, Bool.or_eq_true, beq_iff_eq] at this
      rcases this with (h | h) | h
      · exact .inl h
      · exact .inr (.inl h)
      · exact .inr (.inr h)
    · rw [hq, Bool.false_or] at h4
      have := List.all_eq_true.1 h4 t (List.mem_range.2 ht)
      rw [Bool.and_eq_true] at this
      have h5 := this.1
      rw [hl] at h5
      simp only [Bool.not_true, Bool.false_or] at h5
      have h6 := List.all_eq_true.1 h5 k (List.mem_range.2 (Array.getElem?_eq_some_iff.1 hk).1)
      rw [lk k ok t hk hkt, hla] at h6
      simpa using h6
    · rw [hq, Bool.false_or] at h4
      have := List.all_eq_true.1 h4 t (List.mem_range.2 ht)
      rw [Bool.and_eq_true] at this
      have h5 := this.2
      rw [hl] at h5
      simp only [Bool.not_true, Bool.false_or, hj, Bool.or_eq_true, beq_iff_eq] at h5
      rcases h5 with (h5 | h5) | h5
      · exact .inl h5
      · exact .inr (.inl h5)
      · refine .inr (.inr fun k ok hk hkt hla => ?_)
        have h6 := List.all_eq_true.1 h5 k (List.mem_range.2 (Array.getElem?_eq_some_iff.1 hk).1)
        rw [lk k ok t hk hkt, hla] at h6
        simpa using h6
  have hback : ∀ (i : Nat) (o : Oper), ops[i]? = some o → ∀ e ∈ o.after.toList, e.on < i := fun i o ho => (spec i o ho).1
  -- what holds when the operations of S have run
  let Good : (Nat → Bool) → World → (Nat → Value) → Prop := fun S w x =>
    (∀ (i : Nat) (o : Oper), S i = true → ops[i]? = some o → ∀ e ∈ o.after.toList, Region.binds .any e = true → S e.on = true) ∧
    ∀ t, t < n → match writer ops t with
      | some j => if S j then ((L1 t).lin = true ∧ ∃ i, i < ops.size ∧ S i = true ∧ q.getD i false = false ∧ i ≠ j ∧ ahead ops ops.size j i = false) ∨ (L1 t).on w (x t) else ((L0 t).lin = true ∧ ∃ i, i < ops.size ∧ S i = true ∧ q.getD i false = false) ∨ (L0 t).on w (x t)
      | none => ((L0 t).lin = true ∧ ∃ i, i < ops.size ∧ S i = true ∧ q.getD i false = false) ∨ (L0 t).on w (x t)
  have initOk : ∀ S w x, Good S w x → ∀ (i : Nat) (o : Oper), ops[i]? = some o → S i = false → ∀ t, t < n → t ∈ o.looksAt ops → late ops i t = false → (((L0 t).lin = true ∧ ∃ i, i < ops.size ∧ S i = true ∧ q.getD i false = false) ∨ (L0 t).on w (x t)) → (L0 t).on w (x t) := by
    intro S w x hG i o ho hSi t ht hl hla h
    rcases h with ⟨hlin, i', hi', hS', hq'⟩ | h
    · exfalso
      obtain ⟨o', ho'⟩ : ∃ o', ops[i']? = some o' := ⟨_, Array.getElem?_eq_getElem hi'⟩
      rcases ((spec i' o' ho').2.2.2 hq' t ht).1 (by rw [← hl0 t ht]; exact hlin) i o ho hl hla with rfl | ha
      · rw [hS'] at hSi; cases hSi
      · have := ahead_closed hG.1 _ _ _ ha hS'
        rw [this] at hSi; cases hSi
    · exact h
  have readOk : ∀ S w x, Good S w x → ∀ (i : Nat) (o : Oper), ops[i]? = some o → S i = false → (∀ e ∈ o.after.toList, Region.binds .any e = true → S e.on = true) → ∀ t ∈ o.looksAt ops, t < n → (if late ops i t then L1 t else L0 t).on w (x t) := by
    intro S w x hG i o ho hSi hready t hl ht
    have hg := hG.2 t ht
    -- what is ahead of i has run
    have hS2 : ∀ j, ahead ops ops.size i j = true → S j = true := by
      intro j hj
      have hS' : ∀ (i' : Nat) (o' : Oper), (fun k => S k || k == i) i' = true → ops[i']? = some o' → ∀ e ∈ o'.after.toList, Region.binds .any e = true → (fun k => S k || k == i) e.on = true := by
        intro i' o' h1 h2 e he hb
        simp only [Bool.or_eq_true, beq_iff_eq] at h1 ⊢
        rcases h1 with h1 | rfl
        · exact .inl (hG.1 i' o' h1 h2 e he hb)
        · rw [ho] at h2; obtain rfl := Option.some.inj h2
          exact .inl (hready e he hb)
      have := ahead_closed hS' _ _ _ hj (by simp)
      simp only [Bool.or_eq_true, beq_iff_eq] at this
      rcases this with h | rfl
      · exact h
      · have := ahead_lt hback _ _ _ hj; omega
    cases hw : writer ops t with
    | none =>
      have hla : late ops i t = false := by unfold late; rw [hw]
      rw [hla]
      rw [hw] at hg
      exact initOk S w x hG i o ho hSi t ht hl hla hg
    | some j =>
      rw [hw] at hg
      by_cases hij : ahead ops ops.size i j = true
      · have hla : late ops i t = true := by unfold late; rw [hw]; exact hij
        rw [hla]
        have hSj := hS2 j hij
        simp only [hSj, if_true] at hg
        rcases hg with ⟨hlin, i', hi', hS', hq', hne, hnb⟩ | h
        · exfalso
          obtain ⟨o', ho'⟩ : ∃ o', ops[i']? = some o' := ⟨_, Array.getElem?_eq_getElem hi'⟩
          rcases ((spec i' o' ho').2.2.2 hq' t ht).2 (by rw [← hl1 t ht]; exact hlin) j hw with h | h | h
          · exact hne h.symm
          · rw [hnb] at h; cases h
          · rcases h i o ho hl hla with rfl | ha
            · rw [hS'] at hSi; cases hSi
            · have := ahead_closed hG.1 _ _ _ ha hS'
              rw [this] at hSi; cases hSi
        · exact h
      · have hla : late ops i t = false := by unfold late; rw [hw]; simpa using hij
        rw [hla]
        have hSj : S j = false := by
          cases hSj : S j with
          | false => rfl
          | true =>
            exfalso
            rcases (spec i o ho).2.2.1 t ht hl j hw with rfl | h | h
            · rw [hSj] at hSi; cases hSi
            · exact hij h
            · have := ahead_closed hG.1 _ _ _ h hSj
              rw [this] at hSi; cases hSi
        simp only [hSj, Bool.false_eq_true, if_false] at hg
        exact initOk S w x hG i o ho hSi t ht hl hla hg
  refine wp_region_any hm ?_
  have key : ∀ (fuel : Nat) (listed : Array Bool) (a : Act) (w : World), listed.size = ops.size → (∀ l : List Nat, l.Nodup → (∀ i ∈ l, i < ops.size ∧ listed.getD i true = false) → l.length ≤ fuel) →
      J w → a.defers = a0.defers → a.tmps.size = n → (∀ t, (∀ (i : Nat) (o : Oper), ops[i]? = some o → o.dst ≠ some t) → a.tmps.getD t undef = a0.tmps.getD t undef) → Good (fun i => listed.getD i false) w (fun t => a.tmps.getD t undef) → wpAny P .any ops Q fuel listed a w := by
    intro fuel
    have done : ∀ (listed : Array Bool) (a : Act) (w : World), listed.size = ops.size → Region.ready .any ops listed = [] → J w → a.defers = a0.defers → a.tmps.size = n → (∀ t, (∀ (i : Nat) (o : Oper), ops[i]? = some o → o.dst ≠ some t) → a.tmps.getD t undef = a0.tmps.getD t undef) →
      Good (fun i => listed.getD i false) w (fun t => a.tmps.getD t undef) → Q .normal a w := by
      intro listed a w hsz hr hg hd has hfr hG
      have all : ∀ i, i < ops.size → listed.getD i false = true := by
        intro i
        induction i using Nat.strongRecOn with
        | _ i ih =>
          intro hi
          cases hl : listed.getD i false with
          | true => rfl
          | false =>
            exfalso
            have ho : ops[i]? = some ops[i] := Array.getElem?_eq_getElem hi
            have : i ∈ Region.ready .any ops listed := mem_ready.2 ⟨by
                have : i < listed.size := by omega
                simp only [Array.getD_eq_getD_getElem?, Array.getElem?_eq_getElem this, Option.getD_some] at hl ⊢
                exact hl, ops[i], ho, fun e he _ => by
                have := hback i _ ho e (by simpa using he)
                exact ih e.on this (by omega)⟩
            rw [hr] at this
            cases this
      refine hQ a w hg hd has hfr fun t htf => ?_
      have h := List.all_eq_true.1 hB2 t htf
      simp only [Bool.and_eq_true, decide_eq_true_eq] at h
      obtain ⟨ht, h⟩ := h
      have hgt := hG.2 t ht
      cases hw : writer ops t with
      | none =>
        rw [hw] at hgt h
        rcases hgt with ⟨hlin, i', hi', hS', hq'⟩ | hgt
        · exfalso
          rw [hl0 t ht] at hlin
          rw [hlin] at h
          simp only [Bool.not_true, Bool.false_or] at h
          have := List.all_eq_true.1 h i' (List.mem_range.2 hi')
          rw [hq'] at this; cases this
        · exact hgt
      | some j =>
        rw [hw] at hgt h
        obtain ⟨oj, hoj, _⟩ := writer_spec hw
        simp only [all j (Array.getElem?_eq_some_iff.1 hoj).1, if_true] at hgt
        rcases hgt with ⟨hlin, i', hi', hS', hq', hne, hnb⟩ | hgt
        · exfalso
          rw [hl1 t ht] at hlin
          rw [hlin] at h
          simp only [Bool.not_true, Bool.false_or] at h
          have := List.all_eq_true.1 h i' (List.mem_range.2 hi')
          rw [hq', hnb] at this
          simp at this
          exact hne this
        · exact hgt
    induction fuel with
    | zero =>
      intro listed a w hsz hf hg hd has hfr hG
      have hr : Region.ready .any ops listed = [] := by
        cases hr : Region.ready .any ops listed with
        | nil => rfl
        | cons i r =>
          exfalso
          have hi : i ∈ Region.ready .any ops listed := by rw [hr]; exact List.mem_cons_self
          obtain ⟨h1, o, h2, _⟩ := mem_ready.1 hi
          have := hf [i] (by simp) (fun k hk => by simp at hk; subst hk; exact ⟨(Array.getElem?_eq_some_iff.1 h2).1, h1⟩)
          simp at this
      exact ⟨hr, done listed a w hsz hr hg hd has hfr hG⟩
    | succ fuel ih =>
      intro listed a w hsz hf hg hd has hfr hG
      refine ⟨fun hr => done listed a w hsz hr hg hd has hfr hG, fun i hi => ?_⟩
      obtain ⟨h1, o, ho, hready⟩ := mem_ready.1 hi
      have hlt : i < ops.size := (Array.getElem?_eq_some_iff.1 ho).1
      have hSi : listed.getD i false = false := by
        have : i < listed.size := by omega
        simp only [Array.getD_eq_getD_getElem?, Array.getElem?_eq_getElem this, Option.getD_some] at h1 ⊢
        exact h1
      refine OpSays.wpOp ho (ob i o ho a w hg (fun t htl ht => readOk _ _ _ hG i o ho hSi (fun e he hb => hready e (by simpa using he) hb) t htl ht) has) ?_
      rintro v w' ⟨hstep, hv⟩
      have hU : URow E B w w' := by
        split at hstep
        · exact URow.quiet hstep
        · exact hstep
      refine ih _ _ _ (by simpa using hsz) ?_ (hJm w w' hU hg) (by cases ho' : o.dst <;> simp [Act.put, hd]) (by cases ho' : o.dst <;> simp [Act.put, has]) (fun t ht => by rw [getD_put a o.dst v t (fun k hk => has ▸ ((spec i o ho).2.1 k hk).1), if_neg (ht i o ho)]; exact hfr t ht) ?_
      · intro l hnd hl
        have hil : i ∉ l := by
          intro hmem
          have := (hl i hmem).2
          rw [Array.getD_eq_getD_getElem?, Array.getElem?_setIfInBounds_self_of_lt (by omega)] at this
          cases this
        have := hf (i :: l) (List.nodup_cons.2 ⟨hil, hnd⟩) (fun k hk => by
          rcases List.mem_cons.1 hk with rfl | hk
          · exact ⟨hlt, h1⟩
          · have h2 := hl k hk
            have hne : i ≠ k := fun e => hil (e ▸ hk)
            rw [getD_set_ne true hne] at h2
            exact h2)
        simpa using this
      · have hset : ∀ k, (listed.setIfInBounds i true).getD k false = (listed.getD k false || k == i) := by
          intro k
          by_cases e : i = k
          · subst e
            rw [Array.getD_eq_getD_getElem?, Array.getElem?_setIfInBounds_self_of_lt (by omega)]
            simp
          · rw [getD_set_ne false e]
            have : (k == i) = false := by simp; omega
            rw [this, Bool.or_false]
        refine ⟨fun i' o' hS' ho' e he hb => ?_, fun t ht => ?_⟩
        · simp only [hset, Bool.or_eq_true, beq_iff_eq] at hS' ⊢
          rcases hS' with hS' | rfl
          · exact .inl (hG.1 i' o' hS' ho' e he hb)
          · rw [ho] at ho'; obtain rfl := Option.some.inj ho'
            exact .inl (hready e (by simpa using he) hb)
        · have hgt := hG.2 t ht
          have hput := getD_put a o.dst v t (fun k hk => has ▸ ((spec i o ho).2.1 k hk).1)
          by_cases hdt : o.dst = some t
          · have hw := ((spec i o ho).2.1 t hdt).2
            rw [hw]
            simp only [hset, beq_self_eq_true, Bool.or_true, if_true]
            right
            rw [hput, if_pos hdt]
            exact hv t hdt
          · rw [if_neg hdt] at hput
            have keep0 : (((L0 t).lin = true ∧ ∃ i, i < ops.size ∧ listed.getD i false = true ∧ q.getD i false = false) ∨ (L0 t).on w (a.tmps.getD t undef)) →
                (((L0 t).lin = true ∧ ∃ k, k < ops.size ∧ (listed.setIfInBounds i true).getD k false = true ∧ q.getD k false = false) ∨ (L0 t).on w' ((a.put o.dst v).tmps.getD t undef)) := by
              rintro (⟨hlin, i', hi', hS', hq'⟩ | h)
              · exact .inl ⟨hlin, i', hi', by rw [hset, hS']; rfl, hq'⟩
              · rw [hput]
                by_cases hqi : q.getD i false = true
                · rw [hqi, if_pos rfl] at hstep
                  exact .inr ((L0 t).m0 _ _ _ hstep h)
                · have hqi : q.getD i false = false := by simpa using hqi
                  cases hlin : (L0 t).lin with
                  | true => exact .inl ⟨rfl, i, hlt, by rw [hset]; simp, hqi⟩
                  | false => exact .inr ((L0 t).m1 hlin _ _ _ hU h)
            cases hw : writer ops t with
            | none =>
              rw [hw] at hgt
              exact keep0 hgt
            | some j =>
              rw [hw] at hgt
              have hji : j ≠ i := fun e => by
                subst e
                obtain ⟨oj, hoj, hdj⟩ := writer_spec hw
                rw [ho] at hoj; obtain rfl := Option.some.inj hoj
                exact hdt hdj
              have hjs : (listed.setIfInBounds i true).getD j false = listed.getD j false := by
                rw [hset]
                have : (j == i) = false := by simpa using hji
                rw [this, Bool.or_false]
              simp only [hjs]
              by_cases hSj : listed.getD j false = true
              · simp only [hSj, if_true] at hgt ⊢
                rcases hgt with ⟨hlin, i', hi', hS', hq', hne, hnb⟩ | h
                · exact .inl ⟨hlin, i', hi', by rw [hset, hS']; rfl, hq', hne, hnb⟩
                · rw [hput]
                  by_cases hqi : q.getD i false = true
                  · rw [hqi, if_pos rfl] at hstep
                    exact .inr ((L1 t).m0 _ _ _ hstep h)
                  · have hqi : q.getD i false = false := by simpa using hqi
                    cases hlin : (L1 t).lin with
                    | false => exact .inr ((L1 t).m1 hlin _ _ _ hU h)
                    | true =>
                      refine .inl ⟨rfl, i, hlt, by rw [hset]; simp, hqi, fun e => hji e.symm, ?_⟩
                      cases hb : ahead ops ops.size j i with
                      | false => rfl
                      | true =>
                        exfalso
                        have := ahead_closed hG.1 _ _ _ hb hSj
                        rw [this] at hSi; cases hSi
              · have hSj : listed.getD j false = false := by simpa using hSj
                simp only [hSj, Bool.false_eq_true, if_false] at hgt ⊢
                exact keep0 hgt
  have hd0 : w0.grownBy { w0 with drawn := w0.drawn + 1 } none := ⟨rfl, rfl, rfl, Nat.le_refl _, fun _ _ _ => rfl⟩
  refine key ops.size _ a0 { w0 with drawn := w0.drawn + 1 } (by simp) ?_ (hJm _ _ (URow.quiet hd0) hJ) rfl hn (fun _ _ => rfl) ⟨fun i o hS => ?_, fun t ht => ?_⟩
  · intro l hnd hl
    have : l ⊆ List.range ops.size := fun k hk => List.mem_range.2 (hl k hk).1
    have := List.Nodup.length_le_of_subset hnd this
    simpa using this
  · exfalso
    have hS : (Array.replicate ops.size false).getD i false = true := hS
    by_cases hi : i < ops.size
    · rw [Array.getD_eq_getD_getElem?, Array.getElem?_replicate, if_pos hi] at hS; cases hS
    · rw [Array.getD_eq_getD_getElem?, Array.getElem?_replicate, if_neg hi] at hS; cases hS
  · have hf : ∀ j, (Array.replicate ops.size false).getD j false = false := fun j => by
      by_cases hi : j < ops.size
      · rw [Array.getD_eq_getD_getElem?, Array.getElem?_replicate, if_pos hi]; rfl
      · rw [Array.getD_eq_getD_getElem?, Array.getElem?_replicate, if_neg hi]; rfl
    have := (L0 t).m0 _ _ _ hd0 (h0 t ht)
    cases hw : writer ops t with
    | none => exact .inr this
    | some j =>
      simp only [hf, Bool.false_eq_true, if_false]
      exact .inr this
end Go.Proofs.Ytkeiffccllfkpaa
