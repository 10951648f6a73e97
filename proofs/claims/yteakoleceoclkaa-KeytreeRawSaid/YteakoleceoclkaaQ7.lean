/- A region that draws its order: as Q4's any_tail, but operations of the head that only hand values on may come late. -/
import Derived.Test.YteakoleceoclkaaQ6
import Derived.Test.YteakoleceoclkaaK13
namespace Go.Proofs.Yteakoleceoclkaa
open Go.RowKit
set_option linter.unusedVariables false

/-- as regB, but an edge that binds no order may lead on -/
def regU (ops : Array Oper) (n : Nat) : Bool :=
  (List.range ops.size).all fun i => match ops[i]? with
    | none => true
    | some o =>
      (o.after.toList.all fun e => !Region.binds .any e || decide (e.on < i)) &&
      (match o.dst with | none => true | some d => decide (d < n)) &&
      (List.range ops.size).all fun j => match ops[j]? with
        | none => true
        | some oj => match oj.dst with
          | none => true
          | some d => (i == j || o.dst != some d) && (!(o.looksAt ops).contains d || o.after.toList.any fun e => e.on == j && Region.binds .any e)
theorem regU_spec {ops : Array Oper} {n : Nat} (h : regU ops n = true) {i : Nat} {o : Oper} (hi : ops[i]? = some o) :
    (∀ e ∈ o.after.toList, Region.binds .any e = true → e.on < i) ∧ (∀ d, o.dst = some d → d < n) ∧
    (∀ j oj d, ops[j]? = some oj → oj.dst = some d → (i = j ∨ o.dst ≠ some d) ∧ (d ∈ o.looksAt ops → ∃ e ∈ o.after.toList, e.on = j ∧ Region.binds .any e = true)) := by
  have hlt : i < ops.size := (Array.getElem?_eq_some_iff.1 hi).1
  have h1 := List.all_eq_true.1 h i (List.mem_range.2 hlt)
  simp only [hi, Bool.and_eq_true] at h1
  obtain ⟨⟨h2, h3⟩, h4⟩ := h1
  refine ⟨fun e he hb => ?_, fun d hd => by simpa [hd] using h3, fun j oj d hj hd => ?_⟩
  · have h5 := List.all_eq_true.1 h2 e he
    rw [hb] at h5
    simpa using h5
  have hjl : j < ops.size := (Array.getElem?_eq_some_iff.1 hj).1
  have h5 := List.all_eq_true.1 h4 j (List.mem_range.2 hjl)
  simp only [hj, hd, Bool.and_eq_true, Bool.or_eq_true, beq_iff_eq, bne_iff_ne, Bool.not_eq_true'] at h5
  refine ⟨h5.1, fun hl => ?_⟩
  rcases h5.2 with h6 | h6
  · rw [List.contains_iff_mem.2 hl] at h6; cases h6
  · obtain ⟨e, he, h7⟩ := List.any_eq_true.1 h6
    simp only [Bool.and_eq_true, beq_iff_eq] at h7
    exact ⟨e, he, h7⟩
/-- those that operation i waits for -/
def preU (ops : Array Oper) (i : Nat) : Array Bool := ((List.range ops.size).map fun j => match ops[i]? with | some oi => oi.after.toList.any fun e => Region.binds .any e && e.on == j | none => false).toArray
def freeU (ops : Array Oper) (i : Nat) : Bool := Region.free .any ops (preU ops i) i
theorem freeU_spec {ops : Array Oper} {i : Nat} {o : Oper} (ho : ops[i]? = some o) (h : freeU ops i = true) (listed : Array Bool) (hl : ∀ e ∈ o.after.toList, Region.binds .any e = true → listed.getD e.on false = true) : Region.free .any ops listed i = true := by
  unfold freeU Region.free at h
  unfold Region.free
  simp only [ho] at h ⊢
  rw [List.all_eq_true] at h ⊢
  intro j hj
  have h1 := h j hj
  have hjl := List.mem_range.1 hj
  have e : (preU ops i).getD j true = o.after.toList.any fun e => Region.binds .any e && e.on == j := by
    unfold preU
    simp [Array.getD_eq_getD_getElem?, List.getElem?_range hjl, ho]
  rw [e] at h1
  simp only [Bool.or_eq_true] at h1 ⊢
  rcases h1 with (h1 | h1) | h1
  · exact .inl (.inl h1)
  · obtain ⟨e, he, h2⟩ := List.any_eq_true.1 h1
    simp only [Bool.and_eq_true, beq_iff_eq] at h2
    have h3 := hl e he h2.1
    rw [h2.2] at h3
    refine .inl (.inr ?_)
    rw [Array.getD_eq_getD_getElem?] at h3 ⊢
    cases h4 : listed[j]? with
    | none => rfl
    | some x => rw [h4] at h3; simpa using h3
  · exact .inr h1
/-- the head is listed whole (those of pu may come late), the tail comes one by one -/
def tailU (ops : Array Oper) (k : Nat) (pu : List Nat) : Bool :=
  decide (k < ops.size) && sinkP .any ops k ((List.range k).filter fun i => !pu.contains i) && Region.chainB .any ops k && Region.seqB .any ops (ops.size - k) k ((List.range ops.size).map fun i => decide (i < k)).toArray && Region.noSelect ops && pu.all fun i => decide (i < k) && freeU ops i
section
variable {P : Program} {Q : Exit → Act → World → Prop} {ops : Array Oper}
theorem any_relU {a0 : Act} {w0 : World} {l : List Oper} (hl : ops = l.toArray) (n k : Nat) (L : List Sp) (hn : a0.tmps.size = n) (hB : regU ops n = true) (pu : List Nat) (hT : tailU ops k pu = true)
    (hQp : ∀ c a d v w, Q (.panic c) (Act.put a d v) w → Q (.panic c) a w)
    (al : List Nat) (hal : ∀ t ∈ al, t < n ∧ (∀ w u, At L t w u → ∃ A, u = .pointer (some ⟨A, 0, none⟩) ∧ A < w.heap.size) ∧ ∃ (i : Nat) (o : Oper), i < k ∧ ops[i]? = some o ∧ o.dst = some t)
    (hrun : ∀ (i : Nat) (o : Oper), i < k → ops[i]? = some o → ∀ d ∈ al, o.dst = some d → Lays P o)
    (hpal : ∀ i ∈ pu, ∀ (o : Oper), ops[i]? = some o → ∀ d ∈ al, o.dst ≠ some d)
    (obp : ∀ i ∈ pu, ∀ (o : Oper), ops[i]? = some o → ∀ a w, w0.grownBy w none → (∀ t ∈ o.looksAt ops, t < n → At L t w (a.tmps.getD t undef)) → a.tmps.size = n → ∃ v, Yields P ops o v a ∧ ∀ d, o.dst = some d → At L d w v)
    (h0 : ∀ t, t < n → (∀ (i : Nat) (o : Oper), i < k → ops[i]? = some o → o.dst ≠ some t) → At L t w0 (a0.tmps.getD t undef))
    (ob : ∀ (i : Nat) (o : Oper), i < k → ops[i]? = some o → ∀ a w, w0.grownBy w none → (∀ t ∈ o.looksAt ops, t < n → At L t w (a.tmps.getD t undef)) → a.tmps.size = n →
      OpSays P ops o a w fun v w' => w.grownBy w' none ∧ ∀ d, o.dst = some d → At L d w' v)
    (hQ : ∀ a w, w0.grownBy w none → a.defers = a0.defers → a.tmps.size = n → (∀ t, t < n → At L t w (a.tmps.getD t undef)) → (∀ t ∈ al, ∀ u ∈ al, t ≠ u → a.tmps.getD t undef ≠ a.tmps.getD u undef) → wpList P ops Q (l.drop k) a w) :
    wpAny P .any ops Q ops.size (Array.replicate ops.size false) a0 { w0 with drawn := w0.drawn + 1 } := by
  unfold tailU at hT
  simp only [Bool.and_eq_true, decide_eq_true_eq] at hT
  obtain ⟨⟨⟨⟨⟨hk, hs⟩, hc⟩, hseq⟩, hsel⟩, hpu⟩ := hT
  have hput : ∀ i ∈ pu, i < k ∧ freeU ops i = true := fun i hi => by
    have h1 := List.all_eq_true.1 hpu i hi
    simp only [Bool.and_eq_true, decide_eq_true_eq] at h1
    exact h1
  have key : ∀ (f : Nat) (listed : Array Bool) (a : Act) (w : World), HeadInv .any ops k listed → (∃ l : List Nat, l.Nodup ∧ l.length = f ∧ ∀ i, i ∈ l ↔ i < k ∧ listed.getD i true = false) →
      w0.grownBy w none → a.defers = a0.defers → a.tmps.size = n →
      (∀ t, t < n → ((∀ (i : Nat) (o : Oper), i < k → ops[i]? = some o → o.dst ≠ some t) ∨ Lst ops k listed t) → At L t w (a.tmps.getD t undef)) →
      (∀ t ∈ al, ∀ u ∈ al, t ≠ u → Lst ops k listed t → Lst ops k listed u → a.tmps.getD t undef ≠ a.tmps.getD u undef) →
      wpAny P .any ops Q (f + (ops.size - k)) listed a w := by
    intro f
    induction f with
    | zero =>
      intro listed a w inv hf hg hd has hkn hdi
      obtain ⟨u, hu1, hu2, hu3⟩ := hf
      obtain rfl := List.eq_nil_of_length_eq_zero hu2
      have all : ∀ i, i < k → listed.getD i false = true := fun i hi => by
        cases h : listed.getD i false with
        | true => rfl
        | false =>
          have h1 := getD_in (by rw [inv.size]; omega) h
          have h2 := (hu3 i).2 ⟨hi, h1⟩
          cases h2
      have he : listed = ((List.range ops.size).map fun i => decide (i < k)).toArray := by
        apply Array.ext
        · simp [inv.size]
        · intro i h1 h2
          have hi : i < ops.size := by rw [← inv.size]; exact h1
          simp only [List.getElem_toArray, List.getElem_map, List.getElem_range]
          by_cases hik : i < k
          · have := all i hik
            simp [h1] at this
            simp [hik, this]
          · have := inv.tail i (by omega) hi
            simp [h1] at this
            simp [hik, this]
      rw [Nat.zero_add]
      have hdl : (l.drop k).length = ops.size - k := by rw [hl]; simp
      have hq := hQ a w hg hd has (fun t ht => hkn t ht (by
        by_cases hex : ∃ (j : Nat) (oj : Oper), j < k ∧ ops[j]? = some oj ∧ oj.dst = some t
        · obtain ⟨j, oj, hj, hjo, hdj⟩ := hex
          exact .inr ⟨j, oj, hj, hjo, hdj, all j hj⟩
        · exact .inl fun j oj hj hjo hdj => hex ⟨j, oj, hj, hjo, hdj⟩)) (fun t ht u hu htu => hdi t ht u hu htu
          (by obtain ⟨i, o, h1, h2, h3⟩ := (hal t ht).2.2; exact ⟨i, o, h1, h2, h3, all i h1⟩) (by obtain ⟨i, o, h1, h2, h3⟩ := (hal u hu).2.2; exact ⟨i, o, h1, h2, h3, all i h1⟩))
      have := wpAny_of_seq (md := .any) (Q' := Q) (l.drop k) k listed a w (fun j => by rw [hl]; simp [List.getElem?_drop]) (by rw [hdl, he]; exact hseq) hq
      rwa [hdl] at this
    | succ f ih =>
      intro listed a w inv hf hg hd has hkn hdi
      obtain ⟨u, hu1, hu2, hu3⟩ := hf
      obtain ⟨z0, hz0⟩ : ∃ z, z ∈ u := List.exists_mem_of_length_pos (by omega)
      have hz03 := (hu3 z0).1 hz0
      obtain ⟨z, hzk, hzl, hzr⟩ : ∃ z, z < k ∧ listed.getD z true = false ∧ z ∈ Region.ready .any ops listed := by
        have key2 : ∀ i, i < k → listed.getD i true = false → ∃ z, z < k ∧ listed.getD z true = false ∧ z ∈ Region.ready .any ops listed := by
          intro i
          induction i using Nat.strongRecOn with
          | _ i ih2 =>
            intro hi hli
            by_cases hex : ∃ j, j < i ∧ listed.getD j true = false
            · obtain ⟨j, hj, hlj⟩ := hex
              exact ih2 j hj (by omega) hlj
            · have hio : i < ops.size := by omega
              have ho : ops[i]? = some ops[i] := Array.getElem?_eq_getElem hio
              refine ⟨i, hi, hli, mem_ready.2 ⟨hli, ops[i], ho, fun e he hb => ?_⟩⟩
              have hlt := (regU_spec hB ho).1 e (by simpa using he) hb
              cases hle : listed.getD e.on false with
              | true => rfl
              | false => exact absurd ⟨e.on, hlt, getD_in (by rw [inv.size]; omega) hle⟩ hex
        exact key2 z0 hz03.1 hz03.2
      have hne : Region.ready .any ops listed ≠ [] := fun hr => by rw [hr] at hzr; cases hzr
      rw [show f + 1 + (ops.size - k) = (f + (ops.size - k)) + 1 by omega]
      by_cases hpr : ∃ i ∈ pu, i ∈ Region.ready .any ops listed
      · obtain ⟨i, hipu, hi⟩ := hpr
        obtain ⟨h1, o, ho, hready⟩ := mem_ready.1 hi
        have hik := (hput i hipu).1
        obtain ⟨s1, s2, s3⟩ := regU_spec hB ho
        obtain ⟨v, hy, hv⟩ := obp i hipu o ho a w hg (fun t ht htn => hkn t htn (by
          by_cases hex : ∃ (j : Nat) (oj : Oper), j < k ∧ ops[j]? = some oj ∧ oj.dst = some t
          · obtain ⟨j, oj, hjz, hj, hdj⟩ := hex
            obtain ⟨e, he, rfl, hb⟩ := (s3 j oj t hj hdj).2 ht
            exact .inr ⟨e.on, oj, hjz, hj, hdj, hready e (by simpa using he) hb⟩
          · exact .inl fun j oj hjz hj hdj => hex ⟨j, oj, hjz, hj, hdj⟩)) has
        refine wpAny_take ho hsel (freeU_spec ho (hput i hipu).2 listed fun e he hb => hready e (by simpa using he) hb) (by simpa using hi) (fun c a w h => hQp c a _ _ w h) hy ?_
        have hlst : ∀ t, o.dst ≠ some t → Lst ops k (listed.setIfInBounds i true) t → Lst ops k listed t := fun t hdt ⟨j, oj, hjz, hj, hdj, hlj⟩ => by
          refine ⟨j, oj, hjz, hj, hdj, ?_⟩
          have hne : i ≠ j := fun e => hdt (by subst e; rw [ho] at hj; obtain rfl := Option.some.inj hj; exact hdj)
          rwa [getD_set_ne false hne] at hlj
        refine ih _ _ _ (inv.set hi hik) ⟨u.erase i, hu1.erase i, ?_, fun j => ?_⟩ hg (by cases ho' : o.dst <;> simp [Act.put, hd]) (by cases ho' : o.dst <;> simp [Act.put, has]) ?_ ?_
        · rw [List.length_erase_of_mem ((hu3 i).2 ⟨hik, h1⟩), hu2]; rfl
        · rw [hu1.mem_erase_iff, hu3 j]
          by_cases hji : j = i
          · subst hji
            constructor
            · rintro ⟨h, _⟩; exact absurd rfl h
            · rintro ⟨_, h⟩
              rw [Array.getD_eq_getD_getElem?, Array.getElem?_setIfInBounds_self_of_lt (by rw [inv.size]; omega)] at h
              cases h
          · rw [getD_set_ne true (Ne.symm hji)]
            exact ⟨fun h => h.2, fun h => ⟨hji, h⟩⟩
        · intro t htn hor
          rw [getD_put a o.dst v t (fun d hd => has ▸ s2 d hd)]
          by_cases hdt : o.dst = some t
          · rw [if_pos hdt]
            exact hv t hdt
          · rw [if_neg hdt]
            exact hkn t htn (hor.elim .inl fun h => .inr (hlst t hdt h))
        · intro t ht x hx htx hlt hlx
          have n1 := hpal i hipu o ho t ht
          have n2 := hpal i hipu o ho x hx
          rw [getD_put a o.dst v t (fun d hd => has ▸ s2 d hd), getD_put a o.dst v x (fun d hd => has ▸ s2 d hd), if_neg n1, if_neg n2]
          exact hdi t ht x hx htx (hlst t n1 hlt) (hlst x n2 hlx)
      refine ⟨fun hr => absurd hr hne, fun i hi => ?_⟩
      obtain ⟨h1, o, ho, hready⟩ := mem_ready.1 hi
      have hzn : z ∉ pu := fun h => hpr ⟨z, h, hzr⟩
      have hik : i < k := by
        rcases Nat.lt_or_ge i k with h | h
        · exact h
        · exact absurd hi (tail_waitsP hs hc hk inv _ z rfl (List.mem_filter.2 ⟨List.mem_range.2 hzk, by simpa using hzn⟩) hzk hzl i h)
      obtain ⟨s1, s2, s3⟩ := regU_spec hB ho
      have hsay := ob i o hik ho a w hg (fun t ht htn => hkn t htn (by
        by_cases hex : ∃ (j : Nat) (oj : Oper), j < k ∧ ops[j]? = some oj ∧ oj.dst = some t
        · obtain ⟨j, oj, hjz, hj, hdj⟩ := hex
          obtain ⟨e, he, rfl, hb⟩ := (s3 j oj t hj hdj).2 ht
          exact .inr ⟨e.on, oj, hjz, hj, hdj, hready e (by simpa using he) hb⟩
        · exact .inl fun j oj hjz hj hdj => hex ⟨j, oj, hjz, hj, hdj⟩)) has
      have hsay2 : OpSays P ops o a w fun v w' => (w.grownBy w' none ∧ ∀ d, o.dst = some d → At L d w' v) ∧ ∀ d ∈ al, o.dst = some d → v = .pointer (some ⟨w.heap.size, 0, none⟩) := by
        by_cases hex : ∃ d ∈ al, o.dst = some d
        · obtain ⟨d, hda, hdd⟩ := hex
          exact ((hrun i o hik ho d hda hdd).says hsay).mono fun v w' h => ⟨h.1, fun _ _ _ => h.2⟩
        · exact hsay.mono fun v w' h => ⟨h, fun d hda hdd => absurd ⟨d, hda, hdd⟩ hex⟩
      refine OpSays.wpOp ho hsay2 ?_
      · rintro v w' ⟨⟨hg', hv⟩, hva⟩
        have hlst : ∀ t, o.dst ≠ some t → Lst ops k (listed.setIfInBounds i true) t → Lst ops k listed t := fun t hdt ⟨j, oj, hjz, hj, hdj, hlj⟩ => by
          refine ⟨j, oj, hjz, hj, hdj, ?_⟩
          have hne : i ≠ j := fun e => hdt (by subst e; rw [ho] at hj; obtain rfl := Option.some.inj hj; exact hdj)
          rwa [getD_set_ne false hne] at hlj
        refine ih _ _ _ (inv.set hi hik) ⟨u.erase i, hu1.erase i, ?_, fun j => ?_⟩ (grown_trans hg hg') (by cases ho' : o.dst <;> simp [Act.put, hd]) (by cases ho' : o.dst <;> simp [Act.put, has]) ?_ ?_
        · rw [List.length_erase_of_mem ((hu3 i).2 ⟨hik, h1⟩), hu2]; rfl
        · rw [hu1.mem_erase_iff, hu3 j]
          by_cases hji : j = i
          · subst hji
            constructor
            · rintro ⟨h, _⟩; exact absurd rfl h
            · rintro ⟨_, h⟩
              rw [Array.getD_eq_getD_getElem?, Array.getElem?_setIfInBounds_self_of_lt (by rw [inv.size]; omega)] at h
              cases h
          · rw [getD_set_ne true (Ne.symm hji)]
            exact ⟨fun h => h.2, fun h => ⟨hji, h⟩⟩
        · intro t htn hor
          rw [getD_put a o.dst v t (fun d hd => has ▸ s2 d hd)]
          by_cases hdt : o.dst = some t
          · rw [if_pos hdt]
            exact hv t hdt
          · rw [if_neg hdt]
            exact (L.getD t Sp.any).mono _ _ _ hg' (hkn t htn (hor.elim .inl fun h => .inr (hlst t hdt h)))
        · have old : ∀ t ∈ al, o.dst ≠ some t → Lst ops k (listed.setIfInBounds i true) t → ∀ d ∈ al, o.dst = some d → a.tmps.getD t undef ≠ v := fun t ht hdt hl d hda hdd e => by
            obtain ⟨A, hA, hlt⟩ := (hal t ht).2.1 w _ (hkn t (hal t ht).1 (.inr (hlst t hdt hl)))
            rw [hA, hva d hda hdd] at e
            exact absurd e (by simp <;> omega)
          intro t ht x hx htx hlt hlx
          rw [getD_put a o.dst v t (fun d hd => has ▸ s2 d hd), getD_put a o.dst v x (fun d hd => has ▸ s2 d hd)]
          by_cases h1 : o.dst = some t
          · rw [if_pos h1, if_neg (fun h => htx (Option.some.inj (h1.symm.trans h)))]
            exact fun e => old x hx (fun h => htx (Option.some.inj (h1.symm.trans h))) hlx t ht h1 e.symm
          · rw [if_neg h1]
            by_cases h2 : o.dst = some x
            · rw [if_pos h2]; exact old t ht h1 hlt x hx h2
            · rw [if_neg h2]; exact hdi t ht x hx htx (hlst t h1 hlt) (hlst x h2 hlx)
  have inv0 : HeadInv .any ops k (Array.replicate ops.size false) :=
    ⟨by simp, fun j oj _ hl => (by rw [getD_replicate_false] at hl; cases hl), fun t _ ht => getD_in (by simpa using ht) (getD_replicate_false _ _)⟩
  have := key k (Array.replicate ops.size false) a0 { w0 with drawn := w0.drawn + 1 } inv0 ⟨List.range k, List.nodup_range, List.length_range, fun i => by
    rw [List.mem_range]
    exact ⟨fun h => ⟨h, getD_in (by simp; omega) (getD_replicate_false _ _)⟩, fun h => h.1⟩⟩ (grown_drew w0) rfl hn (fun t ht hor => by
    refine (L.getD t Sp.any).mono w0 _ _ (grown_drew w0) (h0 t ht ?_)
    rcases hor with h | ⟨i, o, _, hi, _, hl⟩
    · exact h
    · rw [getD_replicate_false] at hl; cases hl) (fun t ht x hx htx ⟨i, o, _, hi, _, hl⟩ => by rw [getD_replicate_false] at hl; cases hl)
  rwa [show k + (ops.size - k) = ops.size by omega] at this
end
/-- A REGION THAT DRAWS: its first k operations by obligations, the rest in one forced order -/
theorem any_tailU {P : Program} {Q : Exit → Act → World → Prop} {l : List Oper} {l0 : List Value} {ds : List Deferred} {w0 : World} (n : Nat) (hn : l0.length = n) (k : Nat) (W : List (Option Sp))
    (hB : regU l.toArray n = true) (hW : W.map (·.isSome) = dstsB (l.take k) n) (ob : ObAll P l.toArray (mkL W l0) n w0 (l.take k))
    (al : List Nat) (hal : (al.all fun t => decide (t < n) && (l.take k).any fun o => o.dst == some t) = true) (hrun : ∀ (i : Nat) (o : Oper), (l.take k)[i]? = some o → ∀ d ∈ al, o.dst = some d → Lays P o)
    (hnew : ∀ t ∈ al, ∃ s, W.getD t none = some s ∧ ∀ w u, s.on w u → ∃ A, u = .pointer (some ⟨A, 0, none⟩) ∧ A < w.heap.size)
    (pu : List Nat) (hT : tailU l.toArray k pu = true) (hQp : ∀ c a d v w, Q (.panic c) (Act.put a d v) w → Q (.panic c) a w)
    (hpal : (pu.all fun i => match l[i]? with | none => true | some o => match o.dst with | none => true | some d => !al.contains d) = true)
    (obp : ∀ i ∈ pu, ∀ (o : Oper), l[i]? = some o → ∀ (a : Act) w, w0.grownBy w none → (∀ t ∈ o.looksAt l.toArray, t < n → At (mkL W l0) t w (a.tmps.getD t undef)) → a.tmps.size = n → ∃ v, Yields P l.toArray o v a ∧ ∀ d, o.dst = some d → At (mkL W l0) d w v)
    (hQ : ∀ (x : Nat → Value) w, w0.grownBy w none → (∀ t s, W.getD t none = some s → t < n → s.on w (x t)) → (∀ t ∈ al, ∀ u ∈ al, t ≠ u → x t ≠ x u) → wpList P l.toArray Q (l.drop k) ⟨(fillO x 0 W l0).toArray, ds⟩ w) :
    wpAny P .any l.toArray Q l.toArray.size (Array.replicate l.toArray.size false) ⟨l0.toArray, ds⟩ { w0 with drawn := w0.drawn + 1 } := by
  subst hn
  have hWl : W.length = l0.length := by have := congrArg List.length hW; simpa [dstsB] using this
  have hal1 : ∀ t ∈ al, t < l0.length ∧ ∃ (i : Nat) (o : Oper), (l.take k)[i]? = some o ∧ o.dst = some t := fun t ht => by
    have := List.all_eq_true.1 hal t ht
    simp only [Bool.and_eq_true, decide_eq_true_eq, List.any_eq_true, beq_iff_eq] at this
    obtain ⟨h1, o, ho, hd⟩ := this
    obtain ⟨i, hi, rfl⟩ := List.getElem_of_mem ho
    exact ⟨h1, i, _, List.getElem?_eq_getElem hi, hd⟩
  refine any_relU (l := l) rfl l0.length k (mkL W l0) (by simp) hB pu hT hQp al (fun t ht => ⟨(hal1 t ht).1, fun w u hu => ?_, ?_⟩) (fun i o hik hi d hd hdd => ?_) (fun i hi o ho d hd hdd => ?_) (fun i hi o ho => obp i hi o (by simpa using ho)) (fun t ht hnd => ?_) (fun i o hik hi => ?_) (fun a w hg hd has hkn hdi => ?_)
  · obtain ⟨s, hs1, hs2⟩ := hnew t ht
    unfold At at hu
    rw [mkL_at W l0 hWl t (hal1 t ht).1, hs1] at hu
    exact hs2 w u hu
  · obtain ⟨i, o, hi, hd⟩ := (hal1 t ht).2
    have hil := (List.getElem?_eq_some_iff.1 hi).1
    rw [List.length_take] at hil
    rw [List.getElem?_take, if_pos (by omega)] at hi
    exact ⟨i, o, by omega, by simpa using hi, hd⟩
  · refine hrun i o ?_ d hd hdd
    have hi2 : l[i]? = some o := by simpa using hi
    rw [List.getElem?_take, if_pos hik]; exact hi2
  · have h1 := List.all_eq_true.1 hpal i hi
    have ho2 : l[i]? = some o := by simpa using ho
    simp only [ho2, hdd, Bool.not_eq_true'] at h1
    rw [List.contains_iff_mem.2 hd] at h1
    cases h1
  · have e : (⟨l0.toArray, ds⟩ : Act).tmps.getD t undef = l0.getD t undef := by simp [List.getD_eq_getElem?_getD]
    rw [e]
    unfold At
    rw [mkL_at W l0 hWl t ht]
    cases hw : W.getD t none with
    | none => rfl
    | some s =>
      exfalso
      have h1 : (W.map (·.isSome)).getD t false = true := by
        rw [List.getD_eq_getElem?_getD, List.getElem?_map]
        rw [List.getD_eq_getElem?_getD] at hw
        cases h2 : W[t]? with
        | none => rw [h2] at hw; cases hw
        | some y => rw [h2] at hw; simp at hw; subst hw; rfl
      rw [hW] at h1
      simp only [dstsB, List.getD_eq_getElem?_getD, List.getElem?_map, List.getElem?_range ht, Option.map_some, Option.getD_some, List.any_eq_true, beq_iff_eq] at h1
      obtain ⟨o, ho, hd⟩ := h1
      obtain ⟨i, hi, rfl⟩ := List.getElem_of_mem ho
      have hik : i < k := by rw [List.length_take] at hi; omega
      have hil : i < l.length := by rw [List.length_take] at hi; omega
      exact hnd i (l.take k)[i] hik (by simp [List.getElem_take, hil]) hd
  · refine ob.at i o ?_
    have hi2 : l[i]? = some o := by simpa using hi
    rw [List.getElem?_take, if_pos hik]; exact hi2
  · have hk' : ∀ t, t < l0.length → (match W.getD t none with | some s => s.on w (a.tmps.getD t undef) | none => a.tmps.getD t undef = l0.getD t undef) := fun t ht => by
      have := hkn t ht
      unfold At at this
      rw [mkL_at W l0 hWl t ht] at this
      revert this
      cases W.getD t none <;> exact fun h => h
    have e : a = ⟨(fillO (fun t => a.tmps.getD t undef) 0 W l0).toArray, ds⟩ := by
      obtain ⟨tm, df⟩ := a
      simp only at hd has hk' ⊢
      subst hd
      congr 1
      apply Array.ext'
      refine List.ext_getElem (by rw [fillO_len _ _ _ _ hWl]; simpa using has) fun t h1 h2 => ?_
      have h1' : t < tm.size := by simpa using h1
      have ht : t < l0.length := by omega
      have h3 := fillO_at (fun t => tm.getD t undef) 0 W l0 hWl t ht
      rw [Nat.zero_add] at h3
      have h4 := hk' t ht
      rw [List.getD_eq_getElem?_getD, List.getElem?_eq_getElem h2] at h3
      simp only [Option.getD_some] at h3
      rw [h3]
      cases hw : W.getD t none with
      | some s =>
        simp only [Array.getD_eq_getD_getElem?, Array.getElem?_eq_getElem h1', Option.getD_some, Array.getElem_toList]
      | none =>
        rw [hw] at h4
        simp only at h4 ⊢
        rw [← h4]
        simp only [Array.getD_eq_getD_getElem?, Array.getElem?_eq_getElem h1', Option.getD_some, Array.getElem_toList]
    rw [e]
    refine hQ _ w hg (fun t s hs ht => ?_) hdi
    have := hk' t ht
    rw [hs] at this
    exact this
theorem region_tailU {P : Program} {Q : Exit → Act → World → Prop} {id : Nat} {l : List Oper} {l0 : List Value} {ds : List Deferred} {w0 : World} (hm : P.follows .mixedOrders = true) (n : Nat) (hn : l0.length = n) (k : Nat) (W : List (Option Sp))
    (hB : regU l.toArray n = true) (hW : W.map (·.isSome) = dstsB (l.take k) n) (ob : ObAll P l.toArray (mkL W l0) n w0 (l.take k))
    (al : List Nat) (hal : (al.all fun t => decide (t < n) && (l.take k).any fun o => o.dst == some t) = true) (hrun : ∀ (i : Nat) (o : Oper), (l.take k)[i]? = some o → ∀ d ∈ al, o.dst = some d → Lays P o)
    (hnew : ∀ t ∈ al, ∃ s, W.getD t none = some s ∧ ∀ w u, s.on w u → ∃ A, u = .pointer (some ⟨A, 0, none⟩) ∧ A < w.heap.size)
    (pu : List Nat) (hT : tailU l.toArray k pu = true) (hQp : ∀ c a d v w, Q (.panic c) (Act.put a d v) w → Q (.panic c) a w)
    (hpal : (pu.all fun i => match l[i]? with | none => true | some o => match o.dst with | none => true | some d => !al.contains d) = true)
    (obp : ∀ i ∈ pu, ∀ (o : Oper), l[i]? = some o → ∀ (a : Act) w, w0.grownBy w none → (∀ t ∈ o.looksAt l.toArray, t < n → At (mkL W l0) t w (a.tmps.getD t undef)) → a.tmps.size = n → ∃ v, Yields P l.toArray o v a ∧ ∀ d, o.dst = some d → At (mkL W l0) d w v)
    (hQ : ∀ (x : Nat → Value) w, w0.grownBy w none → (∀ t s, W.getD t none = some s → t < n → s.on w (x t)) → (∀ t ∈ al, ∀ u ∈ al, t ≠ u → x t ≠ x u) → wpList P l.toArray Q (l.drop k) ⟨(fillO x 0 W l0).toArray, ds⟩ w) :
    (Code.region id l.toArray true).wp P Q ⟨l0.toArray, ds⟩ w0 :=
  wp_region_any hm (any_tailU n hn k W hB hW ob al hal hrun hnew pu hT hQp hpal obp hQ)
theorem pu_run {P : Program} {ops : Array Oper} {L : List Sp} {n : Nat} {o : Oper} {a : Act} {w : World} (hg : o.guard = none) {v : Value} (hr : ∀ w', (execOp a.eval o).run P w' = .ok (.value v) w') (hv : ∀ d, o.dst = some d → At L d w v) :
    ∃ v, Yields P ops o v a ∧ ∀ d, o.dst = some d → At L d w v := ⟨v, .inl ⟨by simp [Region.wanted, hg], hr⟩, hv⟩
end Go.Proofs.Yteakoleceoclkaa
