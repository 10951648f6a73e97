/- SX: functions walked by facts on single slots; the frame is a letter. -/
import Derived.Test.YteakoleceoclkaaQ8
import Derived.Deep.RegionHeld3
namespace Go.Proofs.Yteakoleceoclkaa
open Go.RowKit
set_option linter.unusedSimpArgs false
set_option linter.unusedVariables false

/-- facts on slots: the first entry of a slot counts -/
def lkS : List (Nat × Sp) → Nat → Sp
  | [], _ => Sp.any
  | p :: l, t => bif Nat.beq p.1 t then p.2 else lkS l t
def KnA (w : World) (a : Act) : List (Nat × Sp) → Prop
  | [] => True
  | p :: l => p.2.on w (a.tmps.getD p.1 undef) ∧ KnA w a l
theorem KnA.at {w : World} {a : Act} : ∀ {A : List (Nat × Sp)}, KnA w a A → ∀ t, (lkS A t).on w (a.tmps.getD t undef)
  | [], _, _ => trivial
  | p :: l, h, t => by
    unfold lkS
    cases e : Nat.beq p.1 t with
    | true => obtain rfl := Nat.eq_of_beq_eq_true e; exact h.1
    | false => exact h.2.at t
theorem KnA.grown {w w' : World} {a : Act} (g : w.grownBy w' none) : ∀ {A : List (Nat × Sp)}, KnA w a A → KnA w' a A
  | [], _ => trivial
  | p :: _, h => ⟨p.2.mono _ _ _ g h.1, h.2.grown g⟩
theorem KnA.app {w : World} {a : Act} : ∀ {A B : List (Nat × Sp)}, KnA w a A → KnA w a B → KnA w a (A ++ B)
  | [], _, _, h => h
  | _ :: _, _, h, k => ⟨h.1, h.2.app k⟩
theorem KnA.of {w : World} {a : Act} : ∀ {A : List (Nat × Sp)}, (∀ p ∈ A, p.2.on w (a.tmps.getD p.1 undef)) → KnA w a A
  | [], _ => trivial
  | p :: _, h => ⟨h p List.mem_cons_self, KnA.of fun q hq => h q (List.mem_cons_of_mem _ hq)⟩
theorem KnA.mem {w : World} {a : Act} : ∀ {A : List (Nat × Sp)}, KnA w a A → ∀ p ∈ A, p.2.on w (a.tmps.getD p.1 undef)
  | q :: _, h, p, hp => by
    rcases List.mem_cons.1 hp with rfl | hp
    · exact h.1
    · exact h.2.mem p hp
theorem lkS_app {W A : List (Nat × Sp)} {t : Nat} (h : ∀ p ∈ W, p.1 ≠ t) : lkS (W ++ A) t = lkS A t := by
  induction W with
  | nil => rfl
  | cons p W ih =>
    rw [List.cons_append]
    show (bif Nat.beq p.1 t then p.2 else lkS (W ++ A) t) = lkS A t
    rw [show Nat.beq p.1 t = false from by
      cases e : Nat.beq p.1 t with
      | false => rfl
      | true => exact absurd (Nat.eq_of_beq_eq_true e) (h p List.mem_cons_self)]
    exact ih fun q hq => h q (List.mem_cons_of_mem _ hq)
/-- each slot once -/
def ndB : List (Nat × Sp) → Bool
  | [] => true
  | p :: l => (l.all fun q => !Nat.beq p.1 q.1) && ndB l
theorem lkS_mem : ∀ {A : List (Nat × Sp)}, ndB A = true → ∀ p ∈ A, lkS A p.1 = p.2
  | q :: A, h, p, hp => by
    unfold ndB at h
    simp only [Bool.and_eq_true, List.all_eq_true, Bool.not_eq_true'] at h
    unfold lkS
    rcases List.mem_cons.1 hp with rfl | hp
    · rw [Nat.beq_refl]; rfl
    · rw [h.1 p hp]; exact lkS_mem h.2 p hp
/-- the frame's letter: its size, what it defers, the slots -/
def Sx (n : Nat) (D : List Deferred) (A : List (Nat × Sp)) (w : World) (a : Act) : Prop := a.tmps.size = n ∧ a.defers = D ∧ KnA w a A

/-! ## A region whose edges may lead on -/
theorem region_relU {P : Program} {Q : Exit → Act → World → Prop} {id : Nat} {ops : Array Oper} {a0 : Act} {w0 : World} (hm : P.follows .mixedOrders = true) (n : Nat) (L : List Sp) (hn : a0.tmps.size = n) (hB : regU ops n = true)
    (h0 : ∀ t, t < n → (∀ (i : Nat) (o : Oper), ops[i]? = some o → o.dst ≠ some t) → At L t w0 (a0.tmps.getD t undef))
    (ob : ∀ (i : Nat) (o : Oper), ops[i]? = some o → ∀ a w, w0.grownBy w none → (∀ t ∈ o.looksAt ops, t < n → At L t w (a.tmps.getD t undef)) → a.tmps.size = n →
      OpSays P ops o a w fun v w' => w.grownBy w' none ∧ ∀ d, o.dst = some d → At L d w' v)
    (hQ : ∀ a w, w0.grownBy w none → a.defers = a0.defers → a.tmps.size = n → (∀ t, t < n → At L t w (a.tmps.getD t undef)) → Q .normal a w) :
    (Code.region id ops true).wp P Q a0 w0 := by
  refine wp_region_any hm ?_
  have key : ∀ (fuel : Nat) (listed : Array Bool) (a : Act) (w : World), listed.size = ops.size → (∀ l : List Nat, l.Nodup → (∀ i ∈ l, i < ops.size ∧ listed.getD i true = false) → l.length ≤ fuel) →
      w0.grownBy w none → a.defers = a0.defers → a.tmps.size = n →
      (∀ t, t < n → ((∀ (i : Nat) (o : Oper), ops[i]? = some o → o.dst ≠ some t) ∨ ∃ (i : Nat) (o : Oper), ops[i]? = some o ∧ o.dst = some t ∧ listed.getD i false = true) → At L t w (a.tmps.getD t undef)) →
      wpAny P .any ops Q fuel listed a w := by
    intro fuel
    have done : ∀ (listed : Array Bool) (a : Act) (w : World), listed.size = ops.size → Region.ready .any ops listed = [] → w0.grownBy w none → a.defers = a0.defers → a.tmps.size = n →
      (∀ t, t < n → ((∀ (i : Nat) (o : Oper), ops[i]? = some o → o.dst ≠ some t) ∨ ∃ (i : Nat) (o : Oper), ops[i]? = some o ∧ o.dst = some t ∧ listed.getD i false = true) → At L t w (a.tmps.getD t undef)) → Q .normal a w := by
      intro listed a w hsz hr hg hd has hk
      have all : ∀ i, i < ops.size → listed.getD i false = true := by
        intro i
        induction i using Nat.strongRecOn with
        | _ i ih =>
          intro hi
          cases hl : listed.getD i false with
          | true => rfl
          | false =>
            exfalso
            have ho : ops[i]? = some ops[i] := Array.getElem?_eq_getElem hi
            have : i ∈ Region.ready .any ops listed := mem_ready.2 ⟨by
                have : i < listed.size := by omega
                simp only [Array.getD_eq_getD_getElem?, Array.getElem?_eq_getElem this, Option.getD_some] at hl ⊢
                exact hl, ops[i], ho, fun e he hb => by
                have := (regU_spec hB ho).1 e (by simpa using he) hb
                exact ih e.on this (by omega)⟩
            rw [hr] at this
            cases this
      refine hQ a w hg hd has fun t ht => hk t ht ?_
      by_cases hex : ∃ (i : Nat) (o : Oper), ops[i]? = some o ∧ o.dst = some t
      · obtain ⟨i, o, hi, hd⟩ := hex
        exact .inr ⟨i, o, hi, hd, all i (Array.getElem?_eq_some_iff.1 hi).1⟩
      · exact .inl fun i o hi hd => hex ⟨i, o, hi, hd⟩
    induction fuel with
    | zero =>
      intro listed a w hsz hf hg hd has hk
      have hr : Region.ready .any ops listed = [] := by
        cases hr : Region.ready .any ops listed with
        | nil => rfl
        | cons i r =>
          exfalso
          have hi : i ∈ Region.ready .any ops listed := by rw [hr]; exact List.mem_cons_self
          obtain ⟨h1, o, h2, _⟩ := mem_ready.1 hi
          have := hf [i] (by simp) (fun k hk => by simp at hk; subst hk; exact ⟨(Array.getElem?_eq_some_iff.1 h2).1, h1⟩)
          simp at this
      exact ⟨hr, done listed a w hsz hr hg hd has hk⟩
    | succ fuel ih =>
      intro listed a w hsz hf hg hd has hk
      refine ⟨fun hr => done listed a w hsz hr hg hd has hk, fun i hi => ?_⟩
      obtain ⟨h1, o, ho, hready⟩ := mem_ready.1 hi
      obtain ⟨s1, s2, s3⟩ := regU_spec hB ho
      have hlt : i < ops.size := (Array.getElem?_eq_some_iff.1 ho).1
      refine OpSays.wpOp ho (ob i o ho a w hg (fun t ht htn => hk t htn ?_) has) ?_
      · by_cases hex : ∃ (j : Nat) (oj : Oper), ops[j]? = some oj ∧ oj.dst = some t
        · obtain ⟨j, oj, hj, hdj⟩ := hex
          obtain ⟨e, he, rfl, hb⟩ := (s3 j oj t hj hdj).2 ht
          exact .inr ⟨e.on, oj, hj, hdj, hready e (by simpa using he) hb⟩
        · exact .inl fun j oj hj hdj => hex ⟨j, oj, hj, hdj⟩
      · rintro v w' ⟨hg', hv⟩
        refine ih _ _ _ (by simpa using hsz) ?_ (grown_trans hg hg') (by cases ho' : o.dst <;> simp [Act.put, hd]) (by cases ho' : o.dst <;> simp [Act.put, has]) ?_
        · intro l hnd hl
          have hil : i ∉ l := by
            intro hmem
            have := (hl i hmem).2
            rw [Array.getD_eq_getD_getElem?, Array.getElem?_setIfInBounds_self_of_lt (by omega)] at this
            cases this
          have := hf (i :: l) (List.nodup_cons.2 ⟨hil, hnd⟩) (fun k hk => by
            rcases List.mem_cons.1 hk with rfl | hk
            · exact ⟨hlt, h1⟩
            · have h2 := hl k hk
              have hne : i ≠ k := fun e => hil (e ▸ hk)
              rw [getD_set_ne true hne] at h2
              exact h2)
          simpa using this
        · intro t htn hor
          rw [getD_put a o.dst v t (fun k hk => has ▸ s2 k hk)]
          by_cases hdt : o.dst = some t
          · rw [if_pos hdt]
            exact hv t hdt
          · rw [if_neg hdt]
            refine (L.getD t Sp.any).mono _ _ _ hg' (hk t htn ?_)
            rcases hor with h | ⟨j, oj, hj, hdj, hlj⟩
            · exact .inl h
            · refine .inr ⟨j, oj, hj, hdj, ?_⟩
              have hne : i ≠ j := fun e => hdt (by subst e; rw [ho] at hj; obtain rfl := Option.some.inj hj; exact hdj)
              rwa [getD_set_ne false hne] at hlj
  refine key ops.size _ a0 { w0 with drawn := w0.drawn + 1 } (by simp) ?_ ⟨rfl, rfl, rfl, Nat.le_refl _, fun _ _ _ => rfl⟩ rfl hn ?_
  · intro l hnd hl
    have : l ⊆ List.range ops.size := fun k hk => List.mem_range.2 (hl k hk).1
    have := List.Nodup.length_le_of_subset hnd this
    simpa using this
  · intro t ht hor
    refine (L.getD t Sp.any).mono w0 _ _ ⟨rfl, rfl, rfl, Nat.le_refl _, fun _ _ _ => rfl⟩ (h0 t ht ?_)
    rcases hor with h | ⟨i, o, hi, _, hl⟩
    · exact h
    · exfalso
      have : i < ops.size := (Array.getElem?_eq_some_iff.1 hi).1
      rw [Array.getD_eq_getD_getElem?, Array.getElem?_replicate, if_pos this] at hl
      cases hl

/-! ## Obligations -/
def OX (P : Program) (ops : Array Oper) (L : Nat → Sp) (n : Nat) (w0 : World) (o : Oper) : Prop :=
  ∀ (a : Act) w, w0.grownBy w none → (∀ t ∈ o.looksAt ops, t < n → (L t).on w (a.tmps.getD t undef)) → a.tmps.size = n →
    OpSays P ops o a w fun v w' => w.grownBy w' none ∧ ∀ d, o.dst = some d → (L d).on w' v
def OXAll (P : Program) (ops : Array Oper) (L : Nat → Sp) (n : Nat) (w0 : World) : List Oper → Prop
  | [] => True
  | o :: l => OX P ops L n w0 o ∧ OXAll P ops L n w0 l
theorem OXAll.at {P : Program} {ops : Array Oper} {L : Nat → Sp} {n : Nat} {w0 : World} {l : List Oper} (h : OXAll P ops L n w0 l) : ∀ (i : Nat) (o : Oper), l[i]? = some o → OX P ops L n w0 o := by
  induction l with
  | nil => intro i o h; simp at h
  | cons x l ih =>
    intro i o hi
    cases i with
    | zero => simp at hi; subst hi; exact h.1
    | succ i => exact ih h.2 i o (by simpa using hi)
/-- what only hands values on -/
def PX (P : Program) (ops : Array Oper) (L : Nat → Sp) (n : Nat) (w0 : World) (o : Oper) : Prop :=
  ∀ (a : Act) w, w0.grownBy w none → (∀ t ∈ o.looksAt ops, t < n → (L t).on w (a.tmps.getD t undef)) → a.tmps.size = n → ∃ v, Yields P ops o v a ∧ ∀ d, o.dst = some d → (L d).on w v
def PXAll (P : Program) (l : List Oper) (L : Nat → Sp) (n : Nat) (w0 : World) : List Nat → Prop
  | [] => True
  | i :: r => (∀ o, l[i]? = some o → PX P l.toArray L n w0 o) ∧ PXAll P l L n w0 r
theorem PXAll.at {P : Program} {l : List Oper} {L : Nat → Sp} {n : Nat} {w0 : World} : ∀ {pu : List Nat}, PXAll P l L n w0 pu → ∀ i ∈ pu, ∀ o, l[i]? = some o → PX P l.toArray L n w0 o
  | j :: r, h, i, hi, o, ho => by
    rcases List.mem_cons.1 hi with rfl | hi
    · exact h.1 o ho
    · exact h.2.at i hi o ho
/-- slots that point to blocks -/
def PtrAll (L : Nat → Sp) : List Nat → Prop
  | [] => True
  | t :: r => (∀ w u, (L t).on w u → ∃ A, u = .pointer (some ⟨A, 0, none⟩) ∧ A < w.heap.size) ∧ PtrAll L r
theorem PtrAll.at {L : Nat → Sp} : ∀ {al : List Nat}, PtrAll L al → ∀ t ∈ al, ∀ w u, (L t).on w u → ∃ A, u = .pointer (some ⟨A, 0, none⟩) ∧ A < w.heap.size
  | j :: r, h, t, ht => by
    rcases List.mem_cons.1 ht with rfl | ht
    · exact h.1
    · exact h.2.at t ht
def lsX (L : Nat → Sp) (n : Nat) : List Sp := (List.range n).map L
theorem lsX_at (L : Nat → Sp) {n t : Nat} (h : t < n) : (lsX L n).getD t Sp.any = L t := by
  simp [lsX, List.getD_eq_getElem?_getD, List.getElem?_range h]
theorem lsX_past (L : Nat → Sp) {n t : Nat} (h : ¬ t < n) : (lsX L n).getD t Sp.any = Sp.any := by
  unfold lsX
  rw [List.getD_eq_getElem?_getD, List.getElem?_eq_none (by simp; omega)]
  rfl
theorem lsX_on {L : Nat → Sp} {n t : Nat} {w : World} {v : Value} (h : t < n) : At (lsX L n) t w v ↔ (L t).on w v := by unfold At; rw [lsX_at L h]
theorem lsX_any {L : Nat → Sp} {n t : Nat} {w : World} {v : Value} (h : (L t).on w v) : At (lsX L n) t w v := by
  by_cases ht : t < n
  · exact (lsX_on ht).2 h
  · unfold At; rw [lsX_past L ht]; trivial

section
variable {P : Program} {Q : Exit → Act → World → Prop}
theorem dsts_slot {l : List Oper} {W : List (Nat × Sp)} {k : Nat} (hW : (l.take k).map (·.dst) = W.map fun p => some p.1) {t : Nat} (h : ∀ (i : Nat) (o : Oper), i < k → l[i]? = some o → o.dst ≠ some t) : ∀ p ∈ W, p.1 ≠ t := by
  intro p hp e
  have h1 : some p.1 ∈ (l.take k).map (·.dst) := by rw [hW]; exact List.mem_map.2 ⟨p, hp, rfl⟩
  obtain ⟨o, ho, hd⟩ := List.mem_map.1 h1
  obtain ⟨i, hi, rfl⟩ := List.getElem_of_mem ho
  have hik : i < k := by rw [List.length_take] at hi; omega
  have hil : i < l.length := by rw [List.length_take] at hi; omega
  exact h i l[i] hik (List.getElem?_eq_getElem hil) (by rw [← e]; rw [List.getElem_take] at hd; exact hd)
theorem panic_put {fn : Act → World → Prop} {Q : Exit → Act → World → Prop} (h : ∀ c a d v w, Q (.panic c) (Act.put a d v) w → Q (.panic c) a w) : ∀ c a d v w, Exit.then fn Q (.panic c) (Act.put a d v) w → Exit.then fn Q (.panic c) a w := h
/-- A REGION THAT DRAWS: its first k operations in whatever order, the rest in one forced order; operations pu may come late -/
theorem rx_tail {id : Nat} {l : List Oper} {a0 : Act} {w0 : World} {n : Nat} {D : List Deferred} {A0 : List (Nat × Sp)} (st : Sx n D A0 w0 a0) (hm : P.follows .mixedOrders = true) (k : Nat) (W : List (Nat × Sp))
    (hW : (l.take k).map (·.dst) = W.map fun p => some p.1) (hnd : ndB (W ++ A0) = true) (hWn : ((W ++ A0).all fun p => decide (p.1 < n)) = true) (hB : regU l.toArray n = true) (pu : List Nat) (hT : tailU l.toArray k pu = true)
    (ob : OXAll P l.toArray (lkS (W ++ A0)) n w0 (l.take k)) (obp : PXAll P l (lkS (W ++ A0)) n w0 pu)
    (al : List Nat) (hal : (al.all fun t => decide (t < n) && (l.take k).any fun o => o.dst == some t) = true) (hnew : PtrAll (lkS (W ++ A0)) al) (hrun : LaysAll P al (l.take k))
    (hpal : (pu.all fun i => match l[i]? with | none => true | some o => al.all fun d => o.dst != some d) = true)
    (hQ : ∀ a w, w0.grownBy w none → Sx n D (W ++ A0) w a → (∀ t ∈ al, ∀ u ∈ al, t ≠ u → a.tmps.getD t undef ≠ a.tmps.getD u undef) → wpList P l.toArray (NoPanic Q) (l.drop k) a w) :
    (Code.region id l.toArray true).wp P Q a0 w0 := by
  have hop : ∀ (i : Nat) (o : Oper), l.toArray[i]? = some o → l[i]? = some o := fun i o h => by simpa using h
  have htk : ∀ (i : Nat) (o : Oper), i < k → l[i]? = some o → (l.take k)[i]? = some o := fun i o hik h => by rw [List.getElem?_take, if_pos hik]; exact h
  have hal1 : ∀ t ∈ al, t < n ∧ ∃ (i : Nat) (o : Oper), i < k ∧ l.toArray[i]? = some o ∧ o.dst = some t := fun t ht => by
    have := List.all_eq_true.1 hal t ht
    simp only [Bool.and_eq_true, decide_eq_true_eq, List.any_eq_true, beq_iff_eq] at this
    obtain ⟨h1, o, ho, hd⟩ := this
    obtain ⟨i, hi, rfl⟩ := List.getElem_of_mem ho
    have hil := hi
    rw [List.length_take] at hil
    refine ⟨h1, i, l[i], by omega, by simp <;> omega, ?_⟩
    rw [List.getElem_take] at hd; exact hd
  refine wp_region_noPanic (wp_region_any hm (any_relU (Q := NoPanic Q) rfl n k (lsX (lkS (W ++ A0)) n) st.1 hB pu hT (fun _ _ _ _ _ h => h.elim) al (fun t ht => ⟨(hal1 t ht).1, fun w u hu => hnew.at t ht w u ((lsX_on (hal1 t ht).1).1 hu), (hal1 t ht).2⟩)
    (fun i o hik hi d hd hdd => hrun.at i o (htk i o hik (hop i o hi)) d hd hdd) (fun i hi o ho d hd => ?_) (fun i hi o ho a w hg hl hs => ?_) (fun t ht hnd => ?_) (fun i o hik hi a w hg hl hs => ?_) (fun a w hg hd has hkn hdi => ?_)))
  · have h1 := List.all_eq_true.1 hpal i hi
    rw [hop i o ho] at h1
    simpa using List.all_eq_true.1 h1 d hd
  · obtain ⟨v, h1, h2⟩ := obp.at i hi o (hop i o ho) a w hg (fun t ht htn => (lsX_on htn).1 (hl t ht htn)) hs
    exact ⟨v, h1, fun d hd => lsX_any (h2 d hd)⟩
  · refine (lsX_on ht).2 ?_
    rw [lkS_app (dsts_slot hW fun i o hik ho => hnd i o hik (by simpa using ho))]
    exact st.2.2.at t
  · exact (ob.at i o (htk i o hik (hop i o hi)) a w hg (fun t ht htn => (lsX_on htn).1 (hl t ht htn)) hs).mono fun v w' h => ⟨h.1, fun d hd => lsX_any (h.2 d hd)⟩
  · refine hQ a w hg ⟨has, hd.trans st.2.1, KnA.of fun p hp => ?_⟩ hdi
    rw [← lkS_mem hnd p hp]
    by_cases hp1 : p.1 < n
    · exact (lsX_on hp1).1 (hkn p.1 hp1)
    · exact absurd (by simpa using List.all_eq_true.1 hWn p hp) hp1
/-- a region that draws, all of it in whatever order -/
theorem rx_all {id : Nat} {l : List Oper} {a0 : Act} {w0 : World} {n : Nat} {D : List Deferred} {A0 : List (Nat × Sp)} (st : Sx n D A0 w0 a0) (hm : P.follows .mixedOrders = true) (W : List (Nat × Sp))
    (hW : l.map (·.dst) = W.map fun p => some p.1) (hnd : ndB (W ++ A0) = true) (hWn : ((W ++ A0).all fun p => decide (p.1 < n)) = true) (hB : regU l.toArray n = true)
    (ob : OXAll P l.toArray (lkS (W ++ A0)) n w0 l) (hQ : ∀ a w, w0.grownBy w none → Sx n D (W ++ A0) w a → Q .normal a w) :
    (Code.region id l.toArray true).wp P Q a0 w0 := by
  have hop : ∀ (i : Nat) (o : Oper), l.toArray[i]? = some o → l[i]? = some o := fun i o h => by simpa using h
  refine region_relU hm n (lsX (lkS (W ++ A0)) n) st.1 hB (fun t ht hnd' => ?_) (fun i o hi a w hg hl hs => ?_) (fun a w hg hd has hkn => ?_)
  · refine (lsX_on ht).2 ?_
    rw [lkS_app (dsts_slot (l := l) (k := l.length) (by rw [List.take_length]; exact hW) fun i o _ ho => hnd' i o (by simpa using ho))]
    exact st.2.2.at t
  · exact (ob.at i o (hop i o hi) a w hg (fun t ht htn => (lsX_on htn).1 (hl t ht htn)) hs).mono fun v w' h => ⟨h.1, fun d hd => lsX_any (h.2 d hd)⟩
  · refine hQ a w hg ⟨has, hd.trans st.2.1, KnA.of fun p hp => ?_⟩
    rw [← lkS_mem hnd p hp]
    by_cases hp1 : p.1 < n
    · exact (lsX_on hp1).1 (hkn p.1 hp1)
    · exact absurd (by simpa using List.all_eq_true.1 hWn p hp) hp1
theorem OpSays.list {ops : Array Oper} {o : Oper} {rest : List Oper} {a : Act} {w : World} {R : Value → World → Prop} (h : OpSays P ops o a w R) (hk : ∀ v w', R v w' → wpList P ops Q rest (a.put o.dst v) w') : wpList P ops Q (o :: rest) a w := by
  refine wpList_step fun K hK => ?_
  unfold OpSays at h
  split
  · rename_i hw
    rw [if_pos hw] at h
    unfold Oper.wp
    generalize (execOp a.eval o).run P w = r at *
    cases r with
    | ok n w' =>
      cases n <;> simp only [Oper.upon] at h ⊢
      all_goals first
        | exact h.elim
        | exact hK _ _ (hk _ _ h)
        | exact h.mono fun e w'' ⟨v, he, hr⟩ => by subst he; exact hK _ _ (hk _ _ hr)
    | halt x w' => cases x <;> exact h.elim
  · rename_i hw
    rw [if_neg hw] at h
    exact hK _ _ (hk _ _ h)
/-- in order: an operation looks at no slot that is written behind it -/
def seqX (ops : Array Oper) (n : Nat) : List Oper → Bool
  | [] => true
  | o :: l => (o :: l).all (fun p => match p.dst with | none => true | some d => !(o.looksAt ops).contains d) && seqX ops n l
theorem sx_go {ops : Array Oper} {n : Nat} {D : List Deferred} {L : Nat → Sp} {w0 : World} {tl : List Oper} : ∀ (l : List Oper) (a : Act) (w : World), (l.all fun o => match o.dst with | none => true | some d => decide (d < n)) = true → seqX ops n l = true → OXAll P ops L n w0 l → w0.grownBy w none → a.tmps.size = n → a.defers = D →
    (∀ t, t < n → (∀ o ∈ l, o.dst ≠ some t) → (L t).on w (a.tmps.getD t undef)) → (l.map (·.dst)).Nodup →
    (∀ a w, w0.grownBy w none → a.tmps.size = n → a.defers = D → (∀ t, t < n → (L t).on w (a.tmps.getD t undef)) → wpList P ops Q tl a w) → wpList P ops Q (l ++ tl) a w
  | [], a, w, _, _, _, hg, hs, hd, hk, _, hQ => hQ a w hg hs hd fun t ht => hk t ht (by simp)
  | o :: l, a, w, hn, hsq, ob, hg, hs, hd, hk, hnd, hQ => by
    unfold seqX at hsq
    simp only [Bool.and_eq_true] at hsq
    rw [List.all_cons, Bool.and_eq_true] at hn
    rw [List.map_cons, List.nodup_cons] at hnd
    refine (ob.1 a w hg (fun t ht htn => hk t htn fun p hp e => ?_) hs).list fun v w' ⟨g', hv⟩ => ?_
    · have := List.all_eq_true.1 hsq.1 p hp
      rw [e] at this
      simp only [Bool.not_eq_true'] at this
      rw [List.contains_iff_mem.2 ht] at this
      cases this
    · have hdn : ∀ k, o.dst = some k → k < a.tmps.size := fun k hk' => by
        have := hn.1
        rw [hk'] at this
        rw [hs]; simpa using this
      refine sx_go l _ w' hn.2 hsq.2 ob.2 (grown_trans hg g') (by cases ho : o.dst <;> simp [Act.put, hs]) (by cases ho : o.dst <;> simp [Act.put, hd]) (fun t ht hno => ?_) hnd.2 hQ
      rw [getD_put a o.dst v t hdn]
      by_cases hdt : o.dst = some t
      · rw [if_pos hdt]; exact hv t hdt
      · rw [if_neg hdt]
        exact (L t).mono _ _ _ g' (hk t ht fun p hp => by
          rcases List.mem_cons.1 hp with rfl | hp
          · exact hdt
          · exact hno p hp)
theorem ndB_nodup : ∀ {W A : List (Nat × Sp)}, ndB (W ++ A) = true → (W.map fun p => some p.1).Nodup
  | [], _, _ => List.nodup_nil
  | p :: W, A, h => by
    rw [List.cons_append] at h
    unfold ndB at h
    simp only [Bool.and_eq_true, List.all_eq_true, Bool.not_eq_true'] at h
    rw [List.map_cons, List.nodup_cons]
    refine ⟨fun hm => ?_, ndB_nodup h.2⟩
    obtain ⟨q, hq, e⟩ := List.mem_map.1 hm
    have := h.1 q (List.mem_append.2 (.inl hq))
    rw [Option.some.inj e, Nat.beq_refl] at this
    cases this
/-- THE FIRST k OPERATIONS IN THEIR ORDER -/
theorem sx_head {ops : Array Oper} {l : List Oper} {a0 : Act} {w0 : World} {n : Nat} {D : List Deferred} {A0 : List (Nat × Sp)} (st : Sx n D A0 w0 a0) (k : Nat) (W : List (Nat × Sp))
    (hW : (l.take k).map (·.dst) = W.map fun p => some p.1) (hnd : ndB (W ++ A0) = true) (hWn : ((W ++ A0).all fun p => decide (p.1 < n)) = true) (hsq : seqX ops n (l.take k) = true)
    (ob : OXAll P ops (lkS (W ++ A0)) n w0 (l.take k)) (hQ : ∀ a w, w0.grownBy w none → Sx n D (W ++ A0) w a → wpList P ops Q (l.drop k) a w) : wpList P ops Q l a0 w0 := by
  have hin : ∀ o ∈ l.take k, ∀ d, o.dst = some d → ∃ p ∈ W, p.1 = d := fun o ho d hd => by
    have h1 : o.dst ∈ (l.take k).map (·.dst) := List.mem_map.2 ⟨o, ho, rfl⟩
    rw [hW] at h1
    obtain ⟨p, hp, e⟩ := List.mem_map.1 h1
    exact ⟨p, hp, Option.some.inj (e.trans hd)⟩
  have := sx_go (P := P) (Q := Q) (ops := ops) (n := n) (D := D) (L := lkS (W ++ A0)) (w0 := w0) (tl := l.drop k) (l.take k) a0 w0 (List.all_eq_true.2 fun o ho => by
      cases hd : o.dst with
      | none => rfl
      | some d =>
        obtain ⟨p, hp, rfl⟩ := hin o ho d hd
        exact List.all_eq_true.1 hWn p (List.mem_append.2 (.inl hp))) hsq ob (World.grownBy.refl _ _) st.1 st.2.1 (fun t ht hno => by
      rw [lkS_app fun p hp e => ?_]
      · exact st.2.2.at t
      · have h1 : some p.1 ∈ (l.take k).map (·.dst) := by rw [hW]; exact List.mem_map.2 ⟨p, hp, rfl⟩
        obtain ⟨o, ho, hd⟩ := List.mem_map.1 h1
        exact hno o ho (by rw [hd, e])) (by rw [hW]; exact ndB_nodup hnd) (fun a w hg hs hd hk => hQ a w hg ⟨hs, hd, KnA.of fun p hp => by
      rw [← lkS_mem hnd p hp]
      exact hk p.1 (by simpa using List.all_eq_true.1 hWn p hp)⟩)
  rwa [List.take_append_drop] at this
end

/-! ## Values on slots -/
def isL (K : List (Nat × Value)) : List (Nat × Sp) := K.map fun p => (p.1, Sp.is p.2)
def KnV (a : Act) : List (Nat × Value) → Prop
  | [] => True
  | p :: l => a.tmps.getD p.1 undef = p.2 ∧ KnV a l
theorem KnV.a {w : World} {a : Act} : ∀ {K : List (Nat × Value)}, KnV a K → KnA w a (isL K)
  | [], _ => trivial
  | _ :: _, h => ⟨h.1, h.2.a⟩
def Sv (n : Nat) (D : List Deferred) (K : List (Nat × Value)) (a : Act) : Prop := a.tmps.size = n ∧ a.defers = D ∧ KnV a K
theorem Sv.st {n : Nat} {D : List Deferred} {K : List (Nat × Value)} {a : Act} (h : Sv n D K a) (w : World) : Sx n D (isL K) w a := ⟨h.1, h.2.1, h.2.2.a⟩
def lkV : List (Nat × Value) → Nat → Value
  | [], _ => undef
  | p :: l, t => bif Nat.beq p.1 t then p.2 else lkV l t
def hasV : List (Nat × Value) → Nat → Bool
  | [], _ => false
  | p :: l, t => Nat.beq p.1 t || hasV l t
theorem KnV.at {a : Act} : ∀ {K : List (Nat × Value)}, KnV a K → ∀ {t}, hasV K t = true → a.tmps.getD t undef = lkV K t
  | p :: l, h, t, ht => by
    unfold lkV
    unfold hasV at ht
    cases e : Nat.beq p.1 t with
    | true => obtain rfl := Nat.eq_of_beq_eq_true e; exact h.1
    | false => rw [e] at ht; exact h.2.at (by simpa using ht)
/-- an operand's value -/
def okV (K : List (Nat × Value)) : Operand → Bool
  | .tmp t => hasV K t
  | .const _ => true
  | _ => false
def evV (K : List (Nat × Value)) : Operand → Value
  | .tmp t => lkV K t
  | .const c => c
  | _ => undef
theorem Sv.ev {n : Nat} {D : List Deferred} {K : List (Nat × Value)} {a : Act} (h : Sv n D K a) {x : Operand} {v : Value} (hx : okV K x = true) (hv : evV K x = v) : a.eval x = v := by
  subst hv
  cases x with
  | tmp t => exact h.2.2.at hx
  | const c => rfl
  | global g => cases hx
  | func f => cases hx
def delK (d : Nat) : List (Nat × Value) → List (Nat × Value)
  | [] => []
  | p :: l => bif Nat.beq p.1 d then delK d l else p :: delK d l
theorem KnV.del {a : Act} {d : Nat} {v : Value} (hd : d < a.tmps.size) : ∀ {K : List (Nat × Value)}, KnV a K → KnV (a.put (some d) v) (delK d K)
  | [], _ => trivial
  | p :: l, h => by
    unfold delK
    cases e : Nat.beq p.1 d with
    | true => exact h.2.del hd
    | false =>
      refine ⟨?_, h.2.del hd⟩
      rw [getD_put a (some d) v p.1 (fun k hk => by obtain rfl := Option.some.inj hk; exact hd), if_neg (fun he => by
        obtain rfl := Option.some.inj he
        rw [Nat.beq_refl] at e; cases e)]
      exact h.1
theorem Sv.put {n : Nat} {D : List Deferred} {K : List (Nat × Value)} {a : Act} (h : Sv n D K a) {d : Nat} (hd : d < n) (v : Value) : Sv n D ((d, v) :: delK d K) (a.put (some d) v) := by
  refine ⟨by simp [Act.put, h.1], by simp [Act.put, h.2.1], ?_, h.2.2.del (h.1 ▸ hd)⟩
  show (a.put (some d) v).tmps.getD d undef = v
  rw [getD_put a (some d) v d (fun k hk => by obtain rfl := Option.some.inj hk; exact h.1 ▸ hd), if_pos rfl]

/-! ## Single operations -/
section
variable {P : Program} {Q : Exit → Act → World → Prop} {ops : Array Oper} {rest : List Oper} {o : Oper} {a : Act} {w : World} {n : Nat} {D : List Deferred} {K : List (Nat × Value)}
theorem tl_assign (sv : Sv n D K a) (hgd : o.guard = none) {x : Operand} {d : Nat} {v : Value} (ho : o.op = .assign x ∨ o.op = .move x) (hd : o.dst = some d) (hdn : decide (d < n) = true) (hx : okV K x = true) (hv : evV K x = v)
    (h : ∀ a', Sv n D ((d, v) :: delK d K) a' → wpList P ops Q rest a' w) : wpList P ops Q (o :: rest) a w := by
  refine wpList_plain hgd fun K' hK => ?_
  have e := sv.ev hx hv
  unfold Oper.wp
  rcases ho with ho | ho <;>
  · simp only [execOp, ho, e, Sem.run_pure, Oper.upon_value, hd]
    exact hK _ _ (h _ (sv.put (of_decide_eq_true hdn) v))
/-- a store into the middle of a block -/
theorem tl_store (sv : Sv n D K a) (hgd : o.guard = none) {T : TypeId} {x y : Operand} (ho : o.op = .store T x y) (hd : o.dst = none) {b k : Nat} {v : Value} (hx : okV K x = true) (hxv : evV K x = .pointer (some ⟨b, k, none⟩)) (hy : okV K y = true) (hyv : evV K y = v)
    {cs A B C : List Value} (ty : TY P T cs v) {t : TypeId} (hb : w.heap[b]? = some (.cells (A ++ (B ++ C)).toArray t (0, 0))) (hA : A.length = k) (hB : B.length = cs.length)
    (h : ∀ w', w.grownBy w' (some b) → w'.heap[b]? = some (.cells (A ++ (cs ++ C)).toArray t (0, 0)) → wpList P ops Q rest a w') : wpList P ops Q (o :: rest) a w := by
  refine wpList_storeAt hgd T x y ho (sv.ev hx hxv) (sv.ev hy hyv) ty hb (by rw [List.length_append, List.length_append]; omega) fun w' g hb' => ?_
  have e : o.dst = none := hd
  rw [e]
  refine h w' g ?_
  rw [hb']
  subst hA
  rw [List.take_left' rfl, ← List.drop_drop, List.drop_left' rfl, List.drop_left' hB]
end
end Go.Proofs.Yteakoleceoclkaa
