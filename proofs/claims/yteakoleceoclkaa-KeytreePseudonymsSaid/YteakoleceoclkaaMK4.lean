/- Late operations; Valid and Leaf of the reference. (merged by merge.py) -/
import Derived.Test.YteakoleceoclkaaMQ
import Derived.Test.YteakoleceoclkaaMK3
import Derived.Test.YteakoleceoclkaaPP
namespace Go.Proofs.Yteakoleceoclkaa

/-! ## Q7 -/
section
open Go.RowKit
set_option linter.unusedVariables false

/-- as regB, but an edge that binds no order may lead on -/
def regU (ops : Array Oper) (n : Nat) : Bool :=
  (List.range ops.size).all fun i => match ops[i]? with
    | none => true
    | some o =>
      (o.after.toList.all fun e => !Region.binds .any e || decide (e.on < i)) &&
      (match o.dst with | none => true | some d => decide (d < n)) &&
      (List.range ops.size).all fun j => match ops[j]? with
        | none => true
        | some oj => match oj.dst with
          | none => true
          | some d => (i == j || o.dst != some d) && (!(o.looksAt ops).contains d || o.after.toList.any fun e => e.on == j && Region.binds .any e)
theorem regU_spec {ops : Array Oper} {n : Nat} (h : regU ops n = true) {i : Nat} {o : Oper} (hi : ops[i]? = some o) :
    (∀ e ∈ o.after.toList, Region.binds .any e = true → e.on < i) ∧ (∀ d, o.dst = some d → d < n) ∧
    (∀ j oj d, ops[j]? = some oj → oj.dst = some d → (i = j ∨ o.dst ≠ some d) ∧ (d ∈ o.looksAt ops → ∃ e ∈ o.after.toList, e.on = j ∧ Region.binds .any e = true)) := by
  have hlt : i < ops.size := (Array.getElem?_eq_some_iff.1 hi).1
  have h1 := List.all_eq_true.1 h i (List.mem_range.2 hlt)
  simp only [hi, Bool.and_eq_true] at h1
  obtain ⟨⟨h2, h3⟩, h4⟩ := h1
  refine ⟨fun e he hb => ?_, fun d hd => by simpa [hd] using h3, fun j oj d hj hd => ?_⟩
  · have h5 := List.all_eq_true.1 h2 e he
    rw [hb] at h5
    simpa using h5
  have hjl : j < ops.size := (Array.getElem?_eq_some_iff.1 hj).1
  have h5 := List.all_eq_true.1 h4 j (List.mem_range.2 hjl)
  simp only [hj, hd, Bool.and_eq_true, Bool.or_eq_true, beq_iff_eq, bne_iff_ne, Bool.not_eq_true'] at h5
  refine ⟨h5.1, fun hl => ?_⟩
  rcases h5.2 with h6 | h6
  · rw [List.contains_iff_mem.2 hl] at h6; cases h6
  · obtain ⟨e, he, h7⟩ := List.any_eq_true.1 h6
    simp only [Bool.and_eq_true, beq_iff_eq] at h7
    exact ⟨e, he, h7⟩
/-- those that operation i waits for -/
def preU (ops : Array Oper) (i : Nat) : Array Bool := ((List.range ops.size).map fun j => match ops[i]? with | some oi => oi.after.toList.any fun e => Region.binds .any e && e.on == j | none => false).toArray
def freeU (ops : Array Oper) (i : Nat) : Bool := Region.free .any ops (preU ops i) i
theorem freeU_spec {ops : Array Oper} {i : Nat} {o : Oper} (ho : ops[i]? = some o) (h : freeU ops i = true) (listed : Array Bool) (hl : ∀ e ∈ o.after.toList, Region.binds .any e = true → listed.getD e.on false = true) : Region.free .any ops listed i = true := by
  unfold freeU Region.free at h
  unfold Region.free
  simp only [ho] at h ⊢
  rw [List.all_eq_true] at h ⊢
  intro j hj
  have h1 := h j hj
  have hjl := List.mem_range.1 hj
  have e : (preU ops i).getD j true = o.after.toList.any fun e => Region.binds .any e && e.on == j := by
    unfold preU
    simp [Array.getD_eq_getD_getElem?, List.getElem?_range hjl, ho]
  rw [e] at h1
  simp only [Bool.or_eq_true] at h1 ⊢
  rcases h1 with (h1 | h1) | h1
  · exact .inl (.inl h1)
  · obtain ⟨e, he, h2⟩ := List.any_eq_true.1 h1
    simp only [Bool.and_eq_true, beq_iff_eq] at h2
    have h3 := hl e he h2.1
    rw [h2.2] at h3
    refine .inl (.inr ?_)
    rw [Array.getD_eq_getD_getElem?] at h3 ⊢
    cases h4 : listed[j]? with
    | none => rfl
    | some x => rw [h4] at h3; simpa using h3
  · exact .inr h1
/-- the head is listed whole (those of pu may come late), the tail comes one by one -/
def tailU (ops : Array Oper) (k : Nat) (pu : List Nat) : Bool :=
  decide (k < ops.size) && sinkP .any ops k ((List.range k).filter fun i => !pu.contains i) && Region.chainB .any ops k && Region.seqB .any ops (ops.size - k) k ((List.range ops.size).map fun i => decide (i < k)).toArray && Region.noSelect ops && pu.all fun i => decide (i < k) && freeU ops i
section
variable {P : Program} {Q : Exit → Act → World → Prop} {ops : Array Oper}
theorem any_relU {a0 : Act} {w0 : World} {l : List Oper} (hl : ops = l.toArray) (n k : Nat) (L : List Sp) (hn : a0.tmps.size = n) (hB : regU ops n = true) (pu : List Nat) (hT : tailU ops k pu = true)
    (hQp : ∀ c a d v w, Q (.panic c) (Act.put a d v) w → Q (.panic c) a w)
    (al : List Nat) (hal : ∀ t ∈ al, t < n ∧ (∀ w u, At L t w u → ∃ A, u = .pointer (some ⟨A, 0, none⟩) ∧ A < w.heap.size) ∧ ∃ (i : Nat) (o : Oper), i < k ∧ ops[i]? = some o ∧ o.dst = some t)
    (hrun : ∀ (i : Nat) (o : Oper), i < k → ops[i]? = some o → ∀ d ∈ al, o.dst = some d → Lays P o)
    (hpal : ∀ i ∈ pu, ∀ (o : Oper), ops[i]? = some o → ∀ d ∈ al, o.dst ≠ some d)
    (obp : ∀ i ∈ pu, ∀ (o : Oper), ops[i]? = some o → ∀ a w, w0.grownBy w none → (∀ t ∈ o.looksAt ops, t < n → At L t w (a.tmps.getD t undef)) → a.tmps.size = n → ∃ v, Yields P ops o v a ∧ ∀ d, o.dst = some d → At L d w v)
    (h0 : ∀ t, t < n → (∀ (i : Nat) (o : Oper), i < k → ops[i]? = some o → o.dst ≠ some t) → At L t w0 (a0.tmps.getD t undef))
    (ob : ∀ (i : Nat) (o : Oper), i < k → ops[i]? = some o → ∀ a w, w0.grownBy w none → (∀ t ∈ o.looksAt ops, t < n → At L t w (a.tmps.getD t undef)) → a.tmps.size = n →
      OpSays P ops o a w fun v w' => w.grownBy w' none ∧ ∀ d, o.dst = some d → At L d w' v)
    (hQ : ∀ a w, w0.grownBy w none → a.defers = a0.defers → a.tmps.size = n → (∀ t, t < n → At L t w (a.tmps.getD t undef)) → (∀ t ∈ al, ∀ u ∈ al, t ≠ u → a.tmps.getD t undef ≠ a.tmps.getD u undef) → wpList P ops Q (l.drop k) a w) :
    wpAny P .any ops Q ops.size (Array.replicate ops.size false) a0 { w0 with drawn := w0.drawn + 1 } := by
  unfold tailU at hT
  simp only [Bool.and_eq_true, decide_eq_true_eq] at hT
  obtain ⟨⟨⟨⟨⟨hk, hs⟩, hc⟩, hseq⟩, hsel⟩, hpu⟩ := hT
  have hput : ∀ i ∈ pu, i < k ∧ freeU ops i = true := fun i hi => by
    have h1 := List.all_eq_true.1 hpu i hi
    simp only [Bool.and_eq_true, decide_eq_true_eq] at h1
    exact h1
  have key : ∀ (f : Nat) (listed : Array Bool) (a : Act) (w : World), HeadInv .any ops k listed → (∃ l : List Nat, l.Nodup ∧ l.length = f ∧ ∀ i, i ∈ l ↔ i < k ∧ listed.getD i true = false) →
      w0.grownBy w none → a.defers = a0.defers → a.tmps.size = n →
      (∀ t, t < n → ((∀ (i : Nat) (o : Oper), i < k → ops[i]? = some o → o.dst ≠ some t) ∨ Lst ops k listed t) → At L t w (a.tmps.getD t undef)) →
      (∀ t ∈ al, ∀ u ∈ al, t ≠ u → Lst ops k listed t → Lst ops k listed u → a.tmps.getD t undef ≠ a.tmps.getD u undef) →
      wpAny P .any ops Q (f + (ops.size - k)) listed a w := by
    intro f
    induction f with
    | zero =>
      intro listed a w inv hf hg hd has hkn hdi
      obtain ⟨u, hu1, hu2, hu3⟩ := hf
      obtain rfl := List.eq_nil_of_length_eq_zero hu2
      have all : ∀ i, i < k → listed.getD i false = true := fun i hi => by
        cases h : listed.getD i false with
        | true => rfl
        | false =>
          have h1 := getD_in (by rw [inv.size]; omega) h
          have h2 := (hu3 i).2 ⟨hi, h1⟩
          cases h2
      have he : listed = ((List.range ops.size).map fun i => decide (i < k)).toArray := by
        apply Array.ext
        · simp [inv.size]
        · intro i h1 h2
          have hi : i < ops.size := by rw [← inv.size]; exact h1
          simp only [List.getElem_toArray, List.getElem_map, List.getElem_range]
          by_cases hik : i < k
          · have := all i hik
            simp [h1] at this
            simp [hik, this]
          · have := inv.tail i (by omega) hi
            simp [h1] at this
            simp [hik, this]
      rw [Nat.zero_add]
      have hdl : (l.drop k).length = ops.size - k := by rw [hl]; simp
      have hq := hQ a w hg hd has (fun t ht => hkn t ht (by
        by_cases hex : ∃ (j : Nat) (oj : Oper), j < k ∧ ops[j]? = some oj ∧ oj.dst = some t
        · obtain ⟨j, oj, hj, hjo, hdj⟩ := hex
          exact .inr ⟨j, oj, hj, hjo, hdj, all j hj⟩
        · exact .inl fun j oj hj hjo hdj => hex ⟨j, oj, hj, hjo, hdj⟩)) (fun t ht u hu htu => hdi t ht u hu htu
          (by obtain ⟨i, o, h1, h2, h3⟩ := (hal t ht).2.2; exact ⟨i, o, h1, h2, h3, all i h1⟩) (by obtain ⟨i, o, h1, h2, h3⟩ := (hal u hu).2.2; exact ⟨i, o, h1, h2, h3, all i h1⟩))
      have := wpAny_of_seq (md := .any) (Q' := Q) (l.drop k) k listed a w (fun j => by rw [hl]; simp [List.getElem?_drop]) (by rw [hdl, he]; exact hseq) hq
      rwa [hdl] at this
    | succ f ih =>
      intro listed a w inv hf hg hd has hkn hdi
      obtain ⟨u, hu1, hu2, hu3⟩ := hf
      obtain ⟨z0, hz0⟩ : ∃ z, z ∈ u := List.exists_mem_of_length_pos (by omega)
      have hz03 := (hu3 z0).1 hz0
      obtain ⟨z, hzk, hzl, hzr⟩ : ∃ z, z < k ∧ listed.getD z true = false ∧ z ∈ Region.ready .any ops listed := by
        have key2 : ∀ i, i < k → listed.getD i true = false → ∃ z, z < k ∧ listed.getD z true = false ∧ z ∈ Region.ready .any ops listed := by
          intro i
          induction i using Nat.strongRecOn with
          | _ i ih2 =>
            intro hi hli
            by_cases hex : ∃ j, j < i ∧ listed.getD j true = false
            · obtain ⟨j, hj, hlj⟩ := hex
              exact ih2 j hj (by omega) hlj
            · have hio : i < ops.size := by omega
              have ho : ops[i]? = some ops[i] := Array.getElem?_eq_getElem hio
              refine ⟨i, hi, hli, mem_ready.2 ⟨hli, ops[i], ho, fun e he hb => ?_⟩⟩
              have hlt := (regU_spec hB ho).1 e (by simpa using he) hb
              cases hle : listed.getD e.on false with
              | true => rfl
              | false => exact absurd ⟨e.on, hlt, getD_in (by rw [inv.size]; omega) hle⟩ hex
        exact key2 z0 hz03.1 hz03.2
      have hne : Region.ready .any ops listed ≠ [] := fun hr => by rw [hr] at hzr; cases hzr
      rw [show f + 1 + (ops.size - k) = (f + (ops.size - k)) + 1 by omega]
      by_cases hpr : ∃ i ∈ pu, i ∈ Region.ready .any ops listed
      · obtain ⟨i, hipu, hi⟩ := hpr
        obtain ⟨h1, o, ho, hready⟩ := mem_ready.1 hi
        have hik := (hput i hipu).1
        obtain ⟨s1, s2, s3⟩ := regU_spec hB ho
        obtain ⟨v, hy, hv⟩ := obp i hipu o ho a w hg (fun t ht htn => hkn t htn (by
          by_cases hex : ∃ (j : Nat) (oj : Oper), j < k ∧ ops[j]? = some oj ∧ oj.dst = some t
          · obtain ⟨j, oj, hjz, hj, hdj⟩ := hex
            obtain ⟨e, he, rfl, hb⟩ := (s3 j oj t hj hdj).2 ht
            exact .inr ⟨e.on, oj, hjz, hj, hdj, hready e (by simpa using he) hb⟩
          · exact .inl fun j oj hjz hj hdj => hex ⟨j, oj, hjz, hj, hdj⟩)) has
        refine wpAny_take ho hsel (freeU_spec ho (hput i hipu).2 listed fun e he hb => hready e (by simpa using he) hb) (by simpa using hi) (fun c a w h => hQp c a _ _ w h) hy ?_
        have hlst : ∀ t, o.dst ≠ some t → Lst ops k (listed.setIfInBounds i true) t → Lst ops k listed t := fun t hdt ⟨j, oj, hjz, hj, hdj, hlj⟩ => by
          refine ⟨j, oj, hjz, hj, hdj, ?_⟩
          have hne : i ≠ j := fun e => hdt (by subst e; rw [ho] at hj; obtain rfl := Option.some.inj hj; exact hdj)
          rwa [getD_set_ne false hne] at hlj
        refine ih _ _ _ (inv.set hi hik) ⟨u.erase i, hu1.erase i, ?_, fun j => ?_⟩ hg (by cases ho' : o.dst <;> simp [Act.put, hd]) (by cases ho' : o.dst <;> simp [Act.put, has]) ?_ ?_
        · rw [List.length_erase_of_mem ((hu3 i).2 ⟨hik, h1⟩), hu2]; rfl
        · rw [hu1.mem_erase_iff, hu3 j]
          by_cases hji : j = i
          · subst hji
            constructor
            · rintro ⟨h, _⟩; exact absurd rfl h
            · rintro ⟨_, h⟩
              rw [Array.getD_eq_getD_getElem?, Array.getElem?_setIfInBounds_self_of_lt (by rw [inv.size]; omega)] at h
              cases h
          · rw [getD_set_ne true (Ne.symm hji)]
            exact ⟨fun h => h.2, fun h => ⟨hji, h⟩⟩
        · intro t htn hor
          rw [getD_put a o.dst v t (fun d hd => has ▸ s2 d hd)]
          by_cases hdt : o.dst = some t
          · rw [if_pos hdt]
            exact hv t hdt
          · rw [if_neg hdt]
            exact hkn t htn (hor.elim .inl fun h => .inr (hlst t hdt h))
        · intro t ht x hx htx hlt hlx
          have n1 := hpal i hipu o ho t ht
          have n2 := hpal i hipu o ho x hx
          rw [getD_put a o.dst v t (fun d hd => has ▸ s2 d hd), getD_put a o.dst v x (fun d hd => has ▸ s2 d hd), if_neg n1, if_neg n2]
          exact hdi t ht x hx htx (hlst t n1 hlt) (hlst x n2 hlx)
      refine ⟨fun hr => absurd hr hne, fun i hi => ?_⟩
      obtain ⟨h1, o, ho, hready⟩ := mem_ready.1 hi
      have hzn : z ∉ pu := fun h => hpr ⟨z, h, hzr⟩
      have hik : i < k := by
        rcases Nat.lt_or_ge i k with h | h
        · exact h
        · exact absurd hi (tail_waitsP hs hc hk inv _ z rfl (List.mem_filter.2 ⟨List.mem_range.2 hzk, by simpa using hzn⟩) hzk hzl i h)
      obtain ⟨s1, s2, s3⟩ := regU_spec hB ho
      have hsay := ob i o hik ho a w hg (fun t ht htn => hkn t htn (by
        by_cases hex : ∃ (j : Nat) (oj : Oper), j < k ∧ ops[j]? = some oj ∧ oj.dst = some t
        · obtain ⟨j, oj, hjz, hj, hdj⟩ := hex
          obtain ⟨e, he, rfl, hb⟩ := (s3 j oj t hj hdj).2 ht
          exact .inr ⟨e.on, oj, hjz, hj, hdj, hready e (by simpa using he) hb⟩
        · exact .inl fun j oj hjz hj hdj => hex ⟨j, oj, hjz, hj, hdj⟩)) has
      have hsay2 : OpSays P ops o a w fun v w' => (w.grownBy w' none ∧ ∀ d, o.dst = some d → At L d w' v) ∧ ∀ d ∈ al, o.dst = some d → v = .pointer (some ⟨w.heap.size, 0, none⟩) := by
        by_cases hex : ∃ d ∈ al, o.dst = some d
        · obtain ⟨d, hda, hdd⟩ := hex
          exact ((hrun i o hik ho d hda hdd).says hsay).mono fun v w' h => ⟨h.1, fun _ _ _ => h.2⟩
        · exact hsay.mono fun v w' h => ⟨h, fun d hda hdd => absurd ⟨d, hda, hdd⟩ hex⟩
      refine OpSays.wpOp ho hsay2 ?_
      · rintro v w' ⟨⟨hg', hv⟩, hva⟩
        have hlst : ∀ t, o.dst ≠ some t → Lst ops k (listed.setIfInBounds i true) t → Lst ops k listed t := fun t hdt ⟨j, oj, hjz, hj, hdj, hlj⟩ => by
          refine ⟨j, oj, hjz, hj, hdj, ?_⟩
          have hne : i ≠ j := fun e => hdt (by subst e; rw [ho] at hj; obtain rfl := Option.some.inj hj; exact hdj)
          rwa [getD_set_ne false hne] at hlj
        refine ih _ _ _ (inv.set hi hik) ⟨u.erase i, hu1.erase i, ?_, fun j => ?_⟩ (grown_trans hg hg') (by cases ho' : o.dst <;> simp [Act.put, hd]) (by cases ho' : o.dst <;> simp [Act.put, has]) ?_ ?_
        · rw [List.length_erase_of_mem ((hu3 i).2 ⟨hik, h1⟩), hu2]; rfl
        · rw [hu1.mem_erase_iff, hu3 j]
          by_cases hji : j = i
          · subst hji
            constructor
            · rintro ⟨h, _⟩; exact absurd rfl h
            · rintro ⟨_, h⟩
              rw [Array.getD_eq_getD_getElem?, Array.getElem?_setIfInBounds_self_of_lt (by rw [inv.size]; omega)] at h
              cases h
          · rw [getD_set_ne true (Ne.symm hji)]
            exact ⟨fun h => h.2, fun h => ⟨hji, h⟩⟩
        · intro t htn hor
          rw [getD_put a o.dst v t (fun d hd => has ▸ s2 d hd)]
          by_cases hdt : o.dst = some t
          · rw [if_pos hdt]
            exact hv t hdt
          · rw [if_neg hdt]
            exact (L.getD t Sp.any).mono _ _ _ hg' (hkn t htn (hor.elim .inl fun h => .inr (hlst t hdt h)))
        · have old : ∀ t ∈ al, o.dst ≠ some t → Lst ops k (listed.setIfInBounds i true) t → ∀ d ∈ al, o.dst = some d → a.tmps.getD t undef ≠ v := fun t ht hdt hl d hda hdd e => by
            obtain ⟨A, hA, hlt⟩ := (hal t ht).2.1 w _ (hkn t (hal t ht).1 (.inr (hlst t hdt hl)))
            rw [hA, hva d hda hdd] at e
            exact absurd e (by simp <;> omega)
          intro t ht x hx htx hlt hlx
          rw [getD_put a o.dst v t (fun d hd => has ▸ s2 d hd), getD_put a o.dst v x (fun d hd => has ▸ s2 d hd)]
          by_cases h1 : o.dst = some t
          · rw [if_pos h1, if_neg (fun h => htx (Option.some.inj (h1.symm.trans h)))]
            exact fun e => old x hx (fun h => htx (Option.some.inj (h1.symm.trans h))) hlx t ht h1 e.symm
          · rw [if_neg h1]
            by_cases h2 : o.dst = some x
            · rw [if_pos h2]; exact old t ht h1 hlt x hx h2
            · rw [if_neg h2]; exact hdi t ht x hx htx (hlst t h1 hlt) (hlst x h2 hlx)
  have inv0 : HeadInv .any ops k (Array.replicate ops.size false) :=
    ⟨by simp, fun j oj _ hl => (by rw [getD_replicate_false] at hl; cases hl), fun t _ ht => getD_in (by simpa using ht) (getD_replicate_false _ _)⟩
  have := key k (Array.replicate ops.size false) a0 { w0 with drawn := w0.drawn + 1 } inv0 ⟨List.range k, List.nodup_range, List.length_range, fun i => by
    rw [List.mem_range]
    exact ⟨fun h => ⟨h, getD_in (by simp; omega) (getD_replicate_false _ _)⟩, fun h => h.1⟩⟩ (grown_drew w0) rfl hn (fun t ht hor => by
    refine (L.getD t Sp.any).mono w0 _ _ (grown_drew w0) (h0 t ht ?_)
    rcases hor with h | ⟨i, o, _, hi, _, hl⟩
    · exact h
    · rw [getD_replicate_false] at hl; cases hl) (fun t ht x hx htx ⟨i, o, _, hi, _, hl⟩ => by rw [getD_replicate_false] at hl; cases hl)
  rwa [show k + (ops.size - k) = ops.size by omega] at this
end
/-- A REGION THAT DRAWS: its first k operations by obligations, the rest in one forced order -/
theorem any_tailU {P : Program} {Q : Exit → Act → World → Prop} {l : List Oper} {l0 : List Value} {ds : List Deferred} {w0 : World} (n : Nat) (hn : l0.length = n) (k : Nat) (W : List (Option Sp))
    (hB : regU l.toArray n = true) (hW : W.map (·.isSome) = dstsB (l.take k) n) (ob : ObAll P l.toArray (mkL W l0) n w0 (l.take k))
    (al : List Nat) (hal : (al.all fun t => decide (t < n) && (l.take k).any fun o => o.dst == some t) = true) (hrun : ∀ (i : Nat) (o : Oper), (l.take k)[i]? = some o → ∀ d ∈ al, o.dst = some d → Lays P o)
    (hnew : ∀ t ∈ al, ∃ s, W.getD t none = some s ∧ ∀ w u, s.on w u → ∃ A, u = .pointer (some ⟨A, 0, none⟩) ∧ A < w.heap.size)
    (pu : List Nat) (hT : tailU l.toArray k pu = true) (hQp : ∀ c a d v w, Q (.panic c) (Act.put a d v) w → Q (.panic c) a w)
    (hpal : (pu.all fun i => match l[i]? with | none => true | some o => match o.dst with | none => true | some d => !al.contains d) = true)
    (obp : ∀ i ∈ pu, ∀ (o : Oper), l[i]? = some o → ∀ (a : Act) w, w0.grownBy w none → (∀ t ∈ o.looksAt l.toArray, t < n → At (mkL W l0) t w (a.tmps.getD t undef)) → a.tmps.size = n → ∃ v, Yields P l.toArray o v a ∧ ∀ d, o.dst = some d → At (mkL W l0) d w v)
    (hQ : ∀ (x : Nat → Value) w, w0.grownBy w none → (∀ t s, W.getD t none = some s → t < n → s.on w (x t)) → (∀ t ∈ al, ∀ u ∈ al, t ≠ u → x t ≠ x u) → wpList P l.toArray Q (l.drop k) ⟨(fillO x 0 W l0).toArray, ds⟩ w) :
    wpAny P .any l.toArray Q l.toArray.size (Array.replicate l.toArray.size false) ⟨l0.toArray, ds⟩ { w0 with drawn := w0.drawn + 1 } := by
  subst hn
  have hWl : W.length = l0.length := by have := congrArg List.length hW; simpa [dstsB] using this
  have hal1 : ∀ t ∈ al, t < l0.length ∧ ∃ (i : Nat) (o : Oper), (l.take k)[i]? = some o ∧ o.dst = some t := fun t ht => by
    have := List.all_eq_true.1 hal t ht
    simp only [Bool.and_eq_true, decide_eq_true_eq, List.any_eq_true, beq_iff_eq] at this
    obtain ⟨h1, o, ho, hd⟩ := this
    obtain ⟨i, hi, rfl⟩ := List.getElem_of_mem ho
    exact ⟨h1, i, _, List.getElem?_eq_getElem hi, hd⟩
  refine any_relU (l := l) rfl l0.length k (mkL W l0) (by simp) hB pu hT hQp al (fun t ht => ⟨(hal1 t ht).1, fun w u hu => ?_, ?_⟩) (fun i o hik hi d hd hdd => ?_) (fun i hi o ho d hd hdd => ?_) (fun i hi o ho => obp i hi o (by simpa using ho)) (fun t ht hnd => ?_) (fun i o hik hi => ?_) (fun a w hg hd has hkn hdi => ?_)
  · obtain ⟨s, hs1, hs2⟩ := hnew t ht
    unfold At at hu
    rw [mkL_at W l0 hWl t (hal1 t ht).1, hs1] at hu
    exact hs2 w u hu
  · obtain ⟨i, o, hi, hd⟩ := (hal1 t ht).2
    have hil := (List.getElem?_eq_some_iff.1 hi).1
    rw [List.length_take] at hil
    rw [List.getElem?_take, if_pos (by omega)] at hi
    exact ⟨i, o, by omega, by simpa using hi, hd⟩
  · refine hrun i o ?_ d hd hdd
    have hi2 : l[i]? = some o := by simpa using hi
    rw [List.getElem?_take, if_pos hik]; exact hi2
  · have h1 := List.all_eq_true.1 hpal i hi
    have ho2 : l[i]? = some o := by simpa using ho
    simp only [ho2, hdd, Bool.not_eq_true'] at h1
    rw [List.contains_iff_mem.2 hd] at h1
    cases h1
  · have e : (⟨l0.toArray, ds⟩ : Act).tmps.getD t undef = l0.getD t undef := by simp [List.getD_eq_getElem?_getD]
    rw [e]
    unfold At
    rw [mkL_at W l0 hWl t ht]
    cases hw : W.getD t none with
    | none => rfl
    | some s =>
      exfalso
      have h1 : (W.map (·.isSome)).getD t false = true := by
        rw [List.getD_eq_getElem?_getD, List.getElem?_map]
        rw [List.getD_eq_getElem?_getD] at hw
        cases h2 : W[t]? with
        | none => rw [h2] at hw; cases hw
        | some y => rw [h2] at hw; simp at hw; subst hw; rfl
      rw [hW] at h1
      simp only [dstsB, List.getD_eq_getElem?_getD, List.getElem?_map, List.getElem?_range ht, Option.map_some, Option.getD_some, List.any_eq_true, beq_iff_eq] at h1
      obtain ⟨o, ho, hd⟩ := h1
      obtain ⟨i, hi, rfl⟩ := List.getElem_of_mem ho
      have hik : i < k := by rw [List.length_take] at hi; omega
      have hil : i < l.length := by rw [List.length_take] at hi; omega
      exact hnd i (l.take k)[i] hik (by simp [List.getElem_take, hil]) hd
  · refine ob.at i o ?_
    have hi2 : l[i]? = some o := by simpa using hi
    rw [List.getElem?_take, if_pos hik]; exact hi2
  · have hk' : ∀ t, t < l0.length → (match W.getD t none with | some s => s.on w (a.tmps.getD t undef) | none => a.tmps.getD t undef = l0.getD t undef) := fun t ht => by
      have := hkn t ht
      unfold At at this
      rw [mkL_at W l0 hWl t ht] at this
      revert this
      cases W.getD t none <;> exact fun h => h
    have e : a = ⟨(fillO (fun t => a.tmps.getD t undef) 0 W l0).toArray, ds⟩ := by
      obtain ⟨tm, df⟩ := a
      simp only at hd has hk' ⊢
      subst hd
      congr 1
      apply Array.ext'
      refine List.ext_getElem (by rw [fillO_len _ _ _ _ hWl]; simpa using has) fun t h1 h2 => ?_
      have h1' : t < tm.size := by simpa using h1
      have ht : t < l0.length := by omega
      have h3 := fillO_at (fun t => tm.getD t undef) 0 W l0 hWl t ht
      rw [Nat.zero_add] at h3
      have h4 := hk' t ht
      rw [List.getD_eq_getElem?_getD, List.getElem?_eq_getElem h2] at h3
      simp only [Option.getD_some] at h3
      rw [h3]
      cases hw : W.getD t none with
      | some s =>
        simp only [Array.getD_eq_getD_getElem?, Array.getElem?_eq_getElem h1', Option.getD_some, Array.getElem_toList]
      | none =>
        rw [hw] at h4
        simp only at h4 ⊢
        rw [← h4]
        simp only [Array.getD_eq_getD_getElem?, Array.getElem?_eq_getElem h1', Option.getD_some, Array.getElem_toList]
    rw [e]
    refine hQ _ w hg (fun t s hs ht => ?_) hdi
    have := hk' t ht
    rw [hs] at this
    exact this
theorem region_tailU {P : Program} {Q : Exit → Act → World → Prop} {id : Nat} {l : List Oper} {l0 : List Value} {ds : List Deferred} {w0 : World} (hm : P.follows .mixedOrders = true) (n : Nat) (hn : l0.length = n) (k : Nat) (W : List (Option Sp))
    (hB : regU l.toArray n = true) (hW : W.map (·.isSome) = dstsB (l.take k) n) (ob : ObAll P l.toArray (mkL W l0) n w0 (l.take k))
    (al : List Nat) (hal : (al.all fun t => decide (t < n) && (l.take k).any fun o => o.dst == some t) = true) (hrun : ∀ (i : Nat) (o : Oper), (l.take k)[i]? = some o → ∀ d ∈ al, o.dst = some d → Lays P o)
    (hnew : ∀ t ∈ al, ∃ s, W.getD t none = some s ∧ ∀ w u, s.on w u → ∃ A, u = .pointer (some ⟨A, 0, none⟩) ∧ A < w.heap.size)
    (pu : List Nat) (hT : tailU l.toArray k pu = true) (hQp : ∀ c a d v w, Q (.panic c) (Act.put a d v) w → Q (.panic c) a w)
    (hpal : (pu.all fun i => match l[i]? with | none => true | some o => match o.dst with | none => true | some d => !al.contains d) = true)
    (obp : ∀ i ∈ pu, ∀ (o : Oper), l[i]? = some o → ∀ (a : Act) w, w0.grownBy w none → (∀ t ∈ o.looksAt l.toArray, t < n → At (mkL W l0) t w (a.tmps.getD t undef)) → a.tmps.size = n → ∃ v, Yields P l.toArray o v a ∧ ∀ d, o.dst = some d → At (mkL W l0) d w v)
    (hQ : ∀ (x : Nat → Value) w, w0.grownBy w none → (∀ t s, W.getD t none = some s → t < n → s.on w (x t)) → (∀ t ∈ al, ∀ u ∈ al, t ≠ u → x t ≠ x u) → wpList P l.toArray Q (l.drop k) ⟨(fillO x 0 W l0).toArray, ds⟩ w) :
    (Code.region id l.toArray true).wp P Q ⟨l0.toArray, ds⟩ w0 :=
  wp_region_any hm (any_tailU n hn k W hB hW ob al hal hrun hnew pu hT hQp hpal obp hQ)
theorem pu_run {P : Program} {ops : Array Oper} {L : List Sp} {n : Nat} {o : Oper} {a : Act} {w : World} (hg : o.guard = none) {v : Value} (hr : ∀ w', (execOp a.eval o).run P w' = .ok (.value v) w') (hv : ∀ d, o.dst = some d → At L d w v) :
    ∃ v, Yields P ops o v a ∧ ∀ d, o.dst = some d → At L d w v := ⟨v, .inl ⟨by simp [Region.wanted, hg], hr⟩, hv⟩
end

/-! ## K14 -/
section
open Go.RowKit Go.Shelf
set_option linter.unusedSimpArgs false
set_option linter.unusedVariables false
attribute [local go_sem] Oper.semAt_some

theorem stp_def (c : Int) (n : Nd) : stp c n = if okN n = true ∧ ¬ lo n < c then some (hi n) else none := by
  unfold stp span
  by_cases ho : okN n = true
  · rw [if_pos ho]
    have h1 : lo n < hi n := by
      have hq : (0 : Int) < 2 ^ (34 - n.d).toNat := Int.pow_pos (by decide)
      unfold lo hi
      rw [Int.add_mul, Int.one_mul]
      omega
    rw [if_neg (fun e => by rw [Prod.mk.injEq] at e; omega)]
    by_cases h2 : lo n < c
    · rw [if_pos h2, if_neg (fun h => h.2 h2)]
    · rw [if_neg h2, if_pos ⟨ho, h2⟩]
  · rw [if_neg ho, if_pos rfl, if_neg (fun h => ho h.1)]
theorem vld_stop {l : List Nd} {k : Nat} {c : Int} (hk : k < l.length) (h : run 0 (l.take k) = some c) (hs : stp c l[k] = none) : vld l = false := by
  have h1 : run 0 (l.take (k + 1)) = none := by rw [List.take_succ_eq_append_getElem hk, run_snoc, h]; exact hs
  have h2 : run 0 l = none := by
    conv => lhs; rw [← List.take_append_drop (k + 1) l]
    exact run_none h1
  unfold vld
  rw [h2]
  simp
theorem run_next {l : List Nd} {k : Nat} {c d : Int} (hk : k < l.length) (h : run 0 (l.take k) = some c) (hs : stp c l[k] = some d) : run 0 (l.take (k + 1)) = some d := by
  rw [List.take_succ_eq_append_getElem hk, run_snoc, h]; exact hs
set_option maxRecDepth 100000 in
set_option maxHeartbeats 4000000 in
theorem rvalid_walk (l : List NdK) (s : Value) (w : World) (hR : RdL w s l) :
    Calls Try.prog 33 #[.agg #[s]] w fun e w' => e = .returned (.bool (vld (l.map (·.1)))) ∧ w.grownBy w' none := by
  obtain ⟨ao, cap, rfl, p1, p2⟩ := hR.shape
  have HR := hid hR
  obtain ⟨vl, hvl⟩ : ∃ v, v = vld (l.map (·.1)) := ⟨_, rfl⟩
  rw [← hvl]
  have HV := hid hvl
  obtain ⟨m, hm⟩ : ∃ m, m = l.length := ⟨_, rfl⟩
  have hm0 : m ≤ 1099511627776 := by rw [hm]; exact hR.2.2
  rw [← hm] at HR p1 ⊢
  have HM := hid hm
  obtain ⟨w1, hw1⟩ : ∃ x, x = w.alloc (.cells #[.slice ao m cap] 34) := ⟨_, rfl⟩
  have HG1 := hid (show w.grownBy w1 none by rw [hw1]; exact World.grownBy_alloc _ _ _)
  have c0 : w1.cell? ⟨w.heap.size, 0, none⟩ = some (.slice ao m cap) := by rw [hw1, cell_of_row _ _ _ _ _ _ (World.alloc_heap_new w _)]; rfl
  have y0 := block_lt_of_cell c0
  have C0 := hid c0
  have HG0 := hid (World.grownBy.refl w1 none)
  have HRUN := hid (show run 0 ((l.map (·.1)).take 0) = some 0 from rfl)
  clear hR hvl hm
  go_enter Try.func33, Try.ntmps33
  refine wp_seq_k fun K0 k0 => ?_
  have HK0 := hid k0
  clear k0
  go_wp2
  rw [← hw1]
  refine HK0.out _ _ ?_
  clear HK0 hw1
  by_cases h1 : 32768 < m
  · have t1 : decide ((32768 : Int) < (m : Int)) = true := by simp; omega
    have HZ := hid (show vl = false by rw [HV.out]; unfold vld; rw [List.length_map, ← HM.out]; simp; omega)
    clear h1
    go_wp2
    go_ret
    exact ⟨by rw [HZ.out]; rfl, HG1.out⟩
  have t1 : decide ((32768 : Int) < (m : Int)) = false := by simp; omega
  have HL3 := hid (show m ≤ 32768 by omega)
  clear h1
  go_wp2
  clear t1
  go_loopw [3, 4] (fun f i wr => ∃ (k : Nat) (c : Int), k ≤ m ∧ f = .int .i64 c ∧ i = .int .i64 k ∧ Hid (w1.grownBy wr none) ∧ Hid (run 0 ((l.map (·.1)).take k) = some c)) (fun _ i _ => (m - intOf i).toNat)
  case atStart => exact ⟨0, 0, by omega, rfl, rfl, HG0, HRUN⟩
  case round =>
    clear HG0 HRUN c0 y0
    obtain ⟨k, c, hk, rfl, rfl, HG, HRN⟩ := hrel
    have c0 := HG.out.cell C0.out (by simp)
    have y0 := block_lt_of_cell c0
    by_cases hlt : k < m
    · have hkl : k < (l.map (·.1)).length := by rw [List.length_map, ← HM.out]; exact hlt
      have hsr := (HR.out.kn HG1.out).kn HG.out
      obtain ⟨b, off, rfl, hrg⟩ := hsr.1.range (i := k) hkl
      have HRG := hid hrg
      have HNK := hid (hsr.1.2 _ (List.getElem_mem hkl))
      have HS1 := hid (show stp c (l.map (·.1))[k] = none → vl = false from fun h => by rw [HV.out]; exact vld_stop hkl HRN.out h)
      have HS2 := hid (show ∀ d, stp c (l.map (·.1))[k] = some d → run 0 ((l.map (·.1)).take (k + 1)) = some d from fun d h => run_next hkl HRN.out h)
      rw [stp_def] at HS1 HS2
      generalize (l.map (·.1))[k] = x at *
      have TN := hid (tyN x HNK.out.1.1)
      have NL := hid (ncells_len x HNK.out.1.1)
      obtain ⟨C, hC⟩ : ∃ C, C = ncells x := ⟨_, rfl⟩
      have HC := hid hC
      have i0 : (0 : Int) ≤ (k : Int) := by omega
      have i1 : (k : Int) < (m : Int) := by omega
      clear hsr hrg hkl hC
      refine wp_seq_k fun Ka ka => ?_
      have HKa := hid ka
      clear ka
      refine wp_seq_k fun Kb kb => ?_
      have HKb := hid kb
      clear kb
      go_wp2
      refine HKb.out _ _ ?_
      clear HKb
      go_wp2
      refine HKa.out _ _ ?_
      clear HKa
      refine wp_seq_k fun Kc kc => ?_
      have HKc := hid kc
      clear kc
      refine wp_block ?_
      refine wp_seq_k fun Kd kd => ?_
      have HKd := hid kd
      clear kd
      go_wp2_with (first
        | (refine wpList_loadAt rfl 91 (.tmp 20) rfl rfl TN.out HRG.out ?_)
        | (refine wpList_storeTYg rfl 91 (.tmp 5) (.tmp 21) rfl rfl rfl TN.out (heap_at rfl) (by rw [NL.out]; rfl) ?_; intro W2 g2 h2; have G2 := hid (grown_newR (World.grownBy_alloc wr _ none) g2 (Nat.le_refl _)); have H2 := hid h2; clear g2 h2)
        | fail)
      refine HKd.out _ _ ?_
      clear HKd
      go_frame
      refine wp_seq_k fun Ke ke => ?_
      have HKe := hid ke
      clear ke
      refine wp_seq_k fun Kf kf => ?_
      have HKf := hid kf
      clear kf
      obtain ⟨c3, c4, y3⟩ := ncell0 H2.out
      obtain ⟨d, p, kk⟩ := x
      simp only at c3 c4 HNK
      have hd := HNK.out.2.1
      have hp := HNK.out.2.2
      simp only at hd hp
      have hoi := @okN_iff ⟨d, p, kk⟩
      simp only at hoi
      have HOI := hid hoi
      have P2 : ∀ m : Nat, m < 35 → wrap64 ((2 : Int) ^ m) = 2 ^ m := by decide +kernel
      clear hoi
      by_cases h1 : d < 0
      · have t1 : decide (d < 0) = true := by simp; omega
        have HE := hid (HS1.out (by rw [if_neg (fun h => by have := HOI.out.1 h.1; omega)]))
        clear HS1 HS2 P2 h1
        go_quiet ((exact Calls.quiet_of_same (size_walk 0 (by decide) _)))
        refine HKf.out _ _ ?_
        clear HKe HKf HKc
        go_wp2
        go_ret
        exact ⟨by rw [HE.out]; rfl, grown_trans HG1.out (grown_trans HG.out (grown_trans G2.out (grown_drewN _ _)))⟩
      by_cases h2 : 34 < d
      · have t1 : decide (d < 0) = false := by simp; omega
        have t2 : decide (34 < d) = true := by simp; omega
        have HE := hid (HS1.out (by rw [if_neg (fun h => by have := HOI.out.1 h.1; omega)]))
        clear HS1 HS2 P2 h1 h2
        go_quiet ((exact Calls.quiet_of_same (size_walk 0 (by decide) _)))
        refine HKf.out _ _ ?_
        clear HKe HKf HKc
        go_wp2
        go_ret
        exact ⟨by rw [HE.out]; rfl, grown_trans HG1.out (grown_trans HG.out (grown_trans G2.out (grown_drewN _ _)))⟩
      by_cases h3 : p < 0
      · have t1 : decide (d < 0) = false := by simp; omega
        have t2 : decide (34 < d) = false := by simp; omega
        have t3 : decide (p < 0) = true := by simp; omega
        have HE := hid (HS1.out (by rw [if_neg (fun h => by have := HOI.out.1 h.1; omega)]))
        clear HS1 HS2 P2 h1 h2 h3
        go_quiet ((exact Calls.quiet_of_same (size_walk 0 (by decide) _)))
        refine HKf.out _ _ ?_
        clear HKe HKf HKc
        go_wp2
        go_ret
        exact ⟨by rw [HE.out]; rfl, grown_trans HG1.out (grown_trans HG.out (grown_trans G2.out (grown_drewN _ _)))⟩
      obtain ⟨e, rfl⟩ : ∃ e : Nat, d = e := ⟨d.toNat, by omega⟩
      have he : e ≤ 34 := by omega
      have t1 : decide ((e : Int) < 0) = false := by simp
      have t2 : decide ((34 : Int) < (e : Int)) = false := by simp; omega
      have t3 : decide (p < 0) = false := by simp; omega
      have i2 : (0 : Int) ≤ (e : Int) := by omega
      have i3 : (e : Int) ≤ 34 := by omega
      have hp2 := P2 e (by omega)
      have HSZ := hid (fun w => size_walk e he w)
      have j1 : (e : Int) < 64 := by omega
      by_cases h4 : (2 : Int) ^ e ≤ p
      · have t4 : decide (wrap64 ((2 : Int) ^ e) ≤ p) = true := by rw [hp2]; simp [h4]
        have HE := hid (HS1.out (by rw [if_neg (fun h => by have := HOI.out.1 h.1; rw [Int.toNat_natCast] at this; omega)]))
        clear HS1 HS2 P2 hp2 h1 h2 h3 h4
        go_quiet ((exact Calls.quiet_of_same (HSZ.out _)))
        refine HKf.out _ _ ?_
        clear HKe HKf HKc
        go_wp2
        go_ret
        exact ⟨by rw [HE.out]; rfl, grown_trans HG1.out (grown_trans HG.out (grown_trans G2.out (grown_drewN _ _)))⟩
      have t4 : decide (wrap64 ((2 : Int) ^ e) ≤ p) = false := by rw [hp2]; simp; omega
      have i4 : (0 : Int) ≤ p := by omega
      have HOK := hid (HOI.out.2 ⟨i2, i3, i4, by rw [Int.toNat_natCast]; omega⟩)
      have HLO := hid (show lo ⟨(e : Int), p, kk⟩ = p * 2 ^ (34 - e) by unfold lo; simp only; rw [show (34 - (e : Int)).toNat = 34 - e by omega])
      have HHI := hid (show hi ⟨(e : Int), p, kk⟩ = (p + 1) * 2 ^ (34 - e) by unfold hi; simp only; rw [show (34 - (e : Int)).toNat = 34 - e by omega])
      have hb1 : p * 2 ^ (34 - e) ≤ 17179869184 ∧ 0 ≤ p * 2 ^ (34 - e) ∧ (p + 1) * 2 ^ (34 - e) ≤ 17179869184 ∧ 0 ≤ (p + 1) * 2 ^ (34 - e) ∧ p ≤ 17179869184 := by
        have hq : (0 : Int) < 2 ^ (34 - e) := Int.pow_pos (by decide)
        have h5 : (p + 1) * 2 ^ (34 - e) ≤ 2 ^ e * 2 ^ (34 - e) := Int.mul_le_mul_of_nonneg_right (by omega) (Int.le_of_lt hq)
        rw [← Int.pow_add, show e + (34 - e) = 34 by omega] at h5
        have h6 : 0 ≤ p * 2 ^ (34 - e) := Int.mul_nonneg i4 (Int.le_of_lt hq)
        have h7 : (p + 1) * 2 ^ (34 - e) = p * 2 ^ (34 - e) + 2 ^ (34 - e) := by rw [Int.add_mul, Int.one_mul]
        have h8 : (2 : Int) ^ e ≤ 2 ^ 34 := by exact_mod_cast Nat.pow_le_pow_right (n := 2) (by decide) he
        omega
      have w1 : IntKind.i64.wrap (p + 1) = p + 1 := by rw [IntKind.wrap_i64]; omega
      have w2 : IntKind.i64.wrap (p * 2 ^ (34 - e)) = p * 2 ^ (34 - e) := by rw [IntKind.wrap_i64]; omega
      have w3 : IntKind.i64.wrap ((p + 1) * 2 ^ (34 - e)) = (p + 1) * 2 ^ (34 - e) := by rw [IntKind.wrap_i64]; omega
      obtain ⟨q, hq⟩ : ∃ q : Int, q = 2 ^ (34 - e) := ⟨_, rfl⟩
      rw [← hq] at HSZ HLO HHI w2 w3
      have w4 : wrap64 (p * q) = p * q := by unfold wrap64; rw [hq]; omega
      have W3E := hid (show Value.int .i64 (wrap64 (wrap64 (p + 1) * q)) = .int .i64 ((p + 1) * q) by rw [show wrap64 (p + 1) = p + 1 by unfold wrap64; omega, show wrap64 ((p + 1) * q) = (p + 1) * q by unfold wrap64; rw [hq]; omega])
      by_cases h5 : p * q < c
      · have t5 : decide (wrap64 (p * q) < c) = true := by rw [w4]; simp [h5]
        have HE := hid (HS1.out (by rw [if_neg (fun h => by have := h.2; rw [HLO.out] at this; omega)]))
        clear HS1 HS2 P2 hp2 h1 h2 h3 h4 h5 hb1 w1 w2 w3 w4 hq
        go_quiet ((exact Calls.quiet_of_same (HSZ.out _)))
        refine HKf.out _ _ ?_
        clear HKe HKf HKc
        go_wp2
        go_ret
        exact ⟨by rw [HE.out]; rfl, grown_trans HG1.out (grown_trans HG.out (grown_trans G2.out (grown_drewN _ _)))⟩
      · have t5 : decide (wrap64 (p * q) < c) = false := by rw [w4]; simp; omega
        have HE := hid (HS2.out _ (by rw [if_pos ⟨HOK.out, by rw [HLO.out]; omega⟩]))
        rw [HHI.out] at HE
        clear HS1 HS2 P2 hp2 h1 h2 h3 h4 h5 hb1 w1 w2 w3 w4 hq
        go_quiet ((exact Calls.quiet_of_same (HSZ.out _)))
        refine HKf.out _ _ ?_
        clear HKf
        go_wp2
        refine HKe.out _ _ ?_
        clear HKe
        obtain ⟨W3, hW3⟩ : ∃ x, x = W2.drewN nq := ⟨_, rfl⟩
        have HG3 := hid (show wr.grownBy W3 none from by rw [hW3]; exact grown_trans G2.out (grown_drewN _ _))
        have c5 : W3.cell? ⟨wr.heap.size, 0, none⟩ = some (.int .i64 (e : Int)) := by rw [hW3]; exact c3
        have c6 : W3.cell? ⟨wr.heap.size, 1, none⟩ = some (.int .i64 p) := by rw [hW3]; exact c4
        have y5 := block_lt_of_cell c5
        rw [← hW3]
        clear hW3 c3 c4 y3
        go_quiet ((exact Calls.quiet_of_same (HSZ.out _)))
        refine HKc.out _ _ ?_
        clear HKc
        go_wp2
        go_roundw
        case rel => exact ⟨k + 1, (p + 1) * q, by omega, W3E.out, by go_num, hid (grown_trans HG.out (grown_trans HG3.out (grown_drewN _ _))), HE⟩
        case measure => simp [intOf]; omega
    · obtain rfl : k = m := by omega
      have HE := hid (show vl = true by
        have h := HRN.out
        rw [List.take_of_length_le (by rw [List.length_map, ← HM.out]; exact Nat.le_refl _)] at h
        rw [HV.out]; unfold vld; rw [h, List.length_map, ← HM.out]; simp; exact HL3.out)
      go_wp2
      go_ret
      exact ⟨by rw [HE.out]; rfl, grown_trans HG1.out HG.out⟩
end

/-! ## K15 -/
section
open Go.RowKit Go.Shelf
set_option linter.unusedSimpArgs false
set_option linter.unusedVariables false
attribute [local go_sem] Oper.semAt_some

theorem results_ct {P : Program} {fn : Func} {p q : Tmp} {T : TypeId} (h : fn.results = #[.cell p T, .tmp q]) {tmps : Array Value} {w : World} {b0 : Nat} {c0 : List Value} {v0 v1 : Value} {fr0 : Nat × Nat} {u0 : TypeId}
    (hp : tmps.getD p undef = ptr b0) (hq : tmps.getD q undef = v1) (t0 : TY P T c0 v0) (h0 : w.heap[b0]? = some (.cells c0.toArray u0 fr0)) :
    (results fn tmps).run P w = .ok (.tuple #[v0, v1]) w := by
  have e0 := t0.load w b0 0 (rangeAt_row h0)
  have hp' : tmps[p]?.getD undef = .pointer (some ⟨b0, 0, none⟩) := by simpa [ptr] using hp
  have hq' : tmps[q]?.getD undef = v1 := by simpa using hq
  simp [results, h, hp', hq', asAddr, e0]
theorem find_congr_mem {α : Type} {p q : α → Bool} : ∀ {l : List α}, (∀ x ∈ l, p x = q x) → l.find? p = l.find? q := by
  intro l
  induction l with
  | nil => intro _; rfl
  | cons x l ih =>
    intro h
    rw [List.find?_cons, List.find?_cons, h x (List.mem_cons.2 (.inl rfl)), ih fun y hy => h y (List.mem_cons.2 (.inr hy))]
theorem vld_ok {l : List Nd} (hv : vld l = true) : ∀ n ∈ l, okN n = true := fun n hn => by
  obtain ⟨_, e, he⟩ := vld_run hv
  exact (run_all he n hn).1
theorem find_hasA {l : List Nd} (hv : vld l = true) (a : Int) : l.find? (hasA a) = l.find? (fun n => cov n a) :=
  find_congr_mem fun n hn => hasA_cov (vld_ok hv n hn)
theorem isAddr_iff {a : Int} : isAddr a = true ↔ 0 ≤ a ∧ a < 17179869184 := by unfold isAddr; simp
set_option maxRecDepth 100000 in
set_option maxHeartbeats 4000000 in
theorem rleaf_walk (l : List NdK) (s : Value) (a : Int) (w : World) (hR : RdL w s l) :
    Calls Try.prog 22 #[.agg #[s], .int .i64 a] w fun e w' => e = .returned (.tuple #[dval (leafOf (l.map (·.1)) a).1, .int .i64 (leafOf (l.map (·.1)) a).2]) ∧ w.grownBy w' none := by
  obtain ⟨ao, cap, rfl, p1, p2⟩ := hR.shape
  have HR := hid hR
  obtain ⟨gl, hgl⟩ : ∃ v, v = leafOf (l.map (·.1)) a := ⟨_, rfl⟩
  rw [← hgl]
  have HV := hid hgl
  obtain ⟨m, hm⟩ : ∃ m, m = l.length := ⟨_, rfl⟩
  have hm0 : m ≤ 1099511627776 := by rw [hm]; exact hR.2.2
  rw [← hm] at HR p1 ⊢
  have HM := hid hm
  obtain ⟨w0, hw0⟩ : ∃ x, x = (w.alloc (.cells #[.slice ao m cap] 34)).alloc (.cells (bv zero32).toArray 29) := ⟨_, rfl⟩
  have HG0 := hid (show w.grownBy w0 none by rw [hw0]; exact grown_trans (World.grownBy_alloc _ _ _) (World.grownBy_alloc _ _ _))
  have Z0 := hid (show w0.heap[w.heap.size]? = some (.cells #[.slice ao m cap] 34 (0, 0)) by rw [hw0, heap_past (by simp <;> omega), heap_at (by simp <;> omega)])
  have Z1 := hid (show w0.heap[w.heap.size + 1]? = some (.cells (bv zero32).toArray 29 (0, 0)) by rw [hw0, heap_at (by simp)])
  have HS0 := hid (show w0.heap.size = w.heap.size + 2 by rw [hw0]; simp)
  have HW0 := hid hw0
  clear hR hgl hm hw0
  go_enter Try.func22, Try.ntmps22
  refine wp_seq_k fun K0 k0 => ?_
  have HK0 := hid k0
  clear k0
  go_wp2
  refine HK0.out _ _ ?_
  clear HK0
  have hbv : (#[.int .u8 0, .int .u8 0, .int .u8 0, .int .u8 0, .int .u8 0, .int .u8 0, .int .u8 0, .int .u8 0, .int .u8 0, .int .u8 0, .int .u8 0, .int .u8 0, .int .u8 0, .int .u8 0, .int .u8 0, .int .u8 0, .int .u8 0, .int .u8 0, .int .u8 0, .int .u8 0, .int .u8 0, .int .u8 0, .int .u8 0, .int .u8 0, .int .u8 0, .int .u8 0, .int .u8 0, .int .u8 0, .int .u8 0, .int .u8 0, .int .u8 0, .int .u8 0] : Array Value) = (bv zero32).toArray := by kernel_rfl
  rw [hbv, ← HW0.out]
  clear hbv HW0
  have c0 : w0.cell? ⟨w.heap.size, 0, none⟩ = some (.slice ao m cap) := by rw [cell_of_row _ _ _ _ _ _ Z0.out]; rfl
  have y0 := block_lt_of_cell c0
  go_wp2_with fail
  refine (rvalid_walk l (.slice ao m cap) _ (HR.out.kn HG0.out)).mono ?_
  rintro e w2 ⟨rfl, g2⟩
  have G2 := hid (grown_trans HG0.out g2)
  have c0 := g2.cell c0 (by simp)
  have y0 := block_lt_of_cell c0
  have Z1 := hid (row_of g2 Z1.out (by simp))
  have Z0 := hid (row_of g2 Z0.out (by simp))
  have H2S := hid g2.size
  clear g2
  by_cases hv : vld (l.map (·.1)) = true
  · have HVL := hid hv
    simp only [hv]
    clear hv
    by_cases h1 : a < 0
    · have t1 : decide (a < 0) = true := by simp; omega
      have HZ := hid (show gl = (zero32, 1) by rw [HV.out]; unfold leafOf; rw [if_neg (by rw [Bool.and_eq_true, isAddr_iff]; omega)])
      clear h1
      go_wp2_with (first
        | (refine wpList_buildR rfl 29 _ rfl #[] (by simp) (bD0 _) ?_)
        | (refine wpList_storeTYg rfl 29 (.tmp 4) (.tmp 19) rfl rfl rfl (tyD zero32 rfl) Z1.out rfl ?_; intro w5 g5 h5; have G5 := hid g5; have H5 := hid h5; clear g5 h5)
        | fail)
      exact bodyPost_ret (results_ct (p := 4) (q := 5) (b0 := w.heap.size + 1) rfl rfl rfl (tyD zero32 rfl) H5.out) rfl ⟨by rw [HZ.out]; rfl, grown_newR G2.out G5.out (by omega)⟩
    have t1 : decide (a < 0) = false := by simp; omega
    by_cases h2 : 17179869184 ≤ a
    · have t2 : decide ((17179869184 : Int) ≤ a) = true := by simp; omega
      have HZ := hid (show gl = (zero32, 1) by rw [HV.out]; unfold leafOf; rw [if_neg (by rw [Bool.and_eq_true, isAddr_iff]; omega)])
      clear h1 h2
      go_wp2_with (first
        | (refine wpList_buildR rfl 29 _ rfl #[] (by simp) (bD0 _) ?_)
        | (refine wpList_storeTYg rfl 29 (.tmp 4) (.tmp 19) rfl rfl rfl (tyD zero32 rfl) Z1.out rfl ?_; intro w5 g5 h5; have G5 := hid g5; have H5 := hid h5; clear g5 h5)
        | fail)
      exact bodyPost_ret (results_ct (p := 4) (q := 5) (b0 := w.heap.size + 1) rfl rfl rfl (tyD zero32 rfl) H5.out) rfl ⟨by rw [HZ.out]; rfl, grown_newR G2.out G5.out (by omega)⟩
    have t2 : decide ((17179869184 : Int) ≤ a) = false := by simp; omega
    have AB := hid (show 0 ≤ a ∧ a < 17179869184 by omega)
    have HLO := hid (show gl = (match (l.map (·.1)).find? (fun n => cov n a) with | some n => ((desc a (34 - n.d).toNat n).k, 0) | none => (zero32, 10)) by
      rw [HV.out]; unfold leafOf; rw [if_pos (by rw [Bool.and_eq_true, isAddr_iff]; exact ⟨AB.out, HVL.out⟩), find_hasA HVL.out]; cases (l.map (·.1)).find? (fun n => cov n a) <;> rfl)
    have HND := hid (show ∀ n ∈ l, 0 ≤ n.1.d ∧ n.1.d ≤ 34 from fun n hn => by
      have h := okN_iff.1 (vld_ok HVL.out n.1 (List.mem_map.2 ⟨n, hn, rfl⟩))
      exact ⟨h.1, h.2.1⟩)
    go_wp2_with fail
    refine (rfind_walk l (.slice ao m cap) a _ (HR.out.kn G2.out) HND.out AB.out).mono ?_
    rintro e w3 ⟨rfl, g3⟩
    have G3 := hid (grown_trans G2.out g3)
    have c0 := g3.cell c0 (by simp)
    have y0 := block_lt_of_cell c0
    have Z1 := hid (row_of g3 Z1.out (by simp))
    have H3S := hid g3.size
    clear g3 h1 h2 t1 t2
    rcases hfi : (l.map (·.1)).find? (fun n => cov n a) with _ | n0
    · have hf := fnd_none hfi
      have HZ := hid (show gl = (zero32, 10) by rw [HLO.out, hfi])
      rw [hf]
      clear hf hfi
      go_wp2_with (first
        | (refine wpList_buildR rfl 29 _ rfl #[] (by simp) (bD0 _) ?_)
        | (refine wpList_storeTYg rfl 29 (.tmp 4) (.tmp 25) rfl rfl rfl (tyD zero32 rfl) Z1.out rfl ?_; intro w5 g5 h5; have G5 := hid g5; have H5 := hid h5; clear g5 h5)
        | fail)
      exact bodyPost_ret (results_ct (p := 4) (q := 5) (b0 := w.heap.size + 1) rfl rfl rfl (tyD zero32 rfl) H5.out) rfl ⟨by rw [HZ.out]; rfl, grown_newR G3.out G5.out (by omega)⟩
    · obtain ⟨i, hi, hf, hn0⟩ := fnd_some hfi
      have HZ := hid (show gl = ((desc a (34 - n0.d).toNat n0).k, 0) by rw [HLO.out, hfi])
      have hsr := HR.out.kn G3.out
      have hil : i < m := by rw [HM.out]; rw [List.length_map] at hi; exact hi
      obtain ⟨b, off, rfl, hrg⟩ := hsr.1.range hi
      have HNK := hid (hsr.1.2 _ (List.getElem_mem hi))
      have HNO := hid (vld_ok HVL.out _ (List.getElem_mem hi))
      rw [hn0] at hrg HNK HNO
      have HRG := hid hrg
      have TN := hid (tyN n0 HNK.out.1.1)
      have NL := hid (ncells_len n0 HNK.out.1.1)
      have i0 : (0 : Int) ≤ (i : Int) := by omega
      have i1 : (i : Int) < (m : Int) := by omega
      obtain ⟨DN, hDN⟩ : ∃ D, D = desc a (34 - n0.d).toNat n0 := ⟨_, rfl⟩
      rw [← hDN] at HZ
      have HDN := hid hDN
      have HDK := hid (show Dg DN.k by rw [hDN]; exact desc_dg a _ _ HNK.out.1)
      rw [hf]
      clear hf hfi hsr hrg hn0 hi hil hDN
      obtain ⟨B, hB⟩ : ∃ B, B = w3.heap.size := ⟨_, rfl⟩
      have HB := hid hB
      clear hB
      go_wp2_with (first
        | (refine wpList_loadAt rfl 91 (.tmp 29) rfl rfl TN.out HRG.out ?_)
        | (refine wpList_storeTYg rfl 91 (.tmp 7) (.tmp 30) rfl rfl rfl TN.out (heap_at rfl) (by rw [NL.out]; rfl) ?_; intro W4 g4 h4; rw [← HB.out] at h4; have G4 := hid (grown_newR (World.grownBy_alloc w3 _ none) g4 (Nat.le_refl _)); have H4 := hid h4; clear g4 h4)
        | fail)
      try go_frame
      rw [← HB.out]
      go_loopw [] (fun wr => ∃ n' : Nd, Hid (okN n' = true ∧ Dg n'.k ∧ desc a (34 - n'.d).toNat n' = DN ∧ W4.grownBy wr (some B) ∧ wr.heap[B]? = some (.cells (ncells n').toArray 91 (0, 0)))) (fun wr => (34 - intOf ((wr.cell? ⟨B, 0, none⟩).getD undef)).toNat)
      case atStart => exact ⟨n0, hid ⟨HNO.out, HNK.out.1, HDN.out.symm, World.grownBy.refl _ _, H4.out⟩⟩
      case round =>
        obtain ⟨n', HI⟩ := hrel
        obtain ⟨d, p, kk⟩ := n'
        obtain ⟨o1, o2, o3, o4⟩ := okN_iff.1 HI.out.1
        have o5 := okN_p HI.out.1
        obtain ⟨c8, c9, y8⟩ := ncell0 HI.out.2.2.2.2
        simp only at c8 c9 o1 o2 o3 o5
        obtain ⟨e, rfl⟩ : ∃ e : Nat, d = e := ⟨d.toNat, by omega⟩
        have MU := hid (show intOf ((wr.cell? ⟨B, 0, none⟩).getD undef) = (e : Int) by rw [c8]; rfl)
        by_cases hlt : e < 34
        · have t1 : decide ((e : Int) < 34) = true := by simp; omega
          have TX := hid (tyN ⟨(e : Int), p, kk⟩ HI.out.2.1.1)
          have HL := hid (show ∀ w', (∃ s : Gw wr, w' = s.val) → (Instr.loadAt 91 (.pointer (some ⟨B, 0, none⟩))).run Try.prog w' = .ok (nval ⟨(e : Int), p, kk⟩) w' from fun w' ⟨s, h⟩ => by subst h; exact loadsAt TX.out (rangeAt_row (row_of s.g HI.out.2.2.2.2 (by simp))))
          have cD : ∀ s : Gw wr, s.val.cell? ⟨B, 0, none⟩ = some (.int .i64 (e : Int)) := fun s => s.cell c8
          obtain ⟨q, hq⟩ : ∃ q : Int, q = 2 ^ (33 - e) := ⟨_, rfl⟩
          have hq0 : 0 < q := by rw [hq]; exact Int.pow_pos (by decide)
          have HSZ := hid (show ∀ W, Calls Try.prog 60 #[.int .i64 (IntKind.i64.wrap ((e : Int) + 1))] W fun e' w' => e' = .returned (.int .i64 q) ∧ w' = W from fun W => by
            have h := size_walk (e + 1) (by omega) W
            rw [show 34 - (e + 1) = 33 - e by omega, ← hq] at h
            rw [show IntKind.i64.wrap ((e : Int) + 1) = ((e + 1 : Nat) : Int) by rw [IntKind.wrap_i64]; omega]
            exact h)
          obtain ⟨r, hr⟩ : ∃ r, r = bit ⟨(e : Int), p, kk⟩ a := ⟨_, rfl⟩
          have hdq : 0 ≤ a / q ∧ a / q < 17179869184 := by rw [hq]; exact div_bd AB.out (33 - e)
          have HRR := hid (show a / q % 2 = if r then 1 else 0 by
            rw [hr]; unfold bit; simp only
            rw [show (33 - (e : Int)).toNat = 33 - e by omega, ← hq]
            by_cases h : a / q % 2 = 1
            · simp [h]
            · simp [h]; omega)
          have hqn : ¬ q = 0 := by omega
          have htd : a.tdiv q = a / q := Int.tdiv_eq_ediv_of_nonneg AB.out.1
          have htm : (a / q).tmod 2 = a / q % 2 := Int.tmod_eq_emod_of_nonneg hdq.1
          have hw1 : IntKind.i64.wrap (a / q) = a / q := by rw [IntKind.wrap_i64]; omega
          have hw2 : IntKind.i64.wrap (a / q % 2) = a / q % 2 := by rw [IntKind.wrap_i64]; omega
          have a1 : 0 ≤ a := AB.out.1
          have a2 : a < 17179869184 := AB.out.2
          have HCH := hid (fun (R : Int) (hR : R = a / q % 2) (W : World) => rchild_walk ⟨(e : Int), p, kk⟩ r (R := R) (hR.trans HRR.out) HI.out.2.1 ⟨o1, o2⟩ ⟨o3, o5⟩ W)
          obtain ⟨CN, hCN⟩ : ∃ c, c = child ⟨(e : Int), p, kk⟩ r := ⟨_, rfl⟩
          rw [← hCN] at HCH
          have HCN := hid hCN
          have HNX := hid (show okN CN = true ∧ Dg CN.k ∧ desc a (34 - CN.d).toNat CN = DN ∧ CN.d = (e : Int) + 1 from by
            rw [hCN, hr]
            refine ⟨okN_child _ HI.out.1 (by simp only; omega), child_dg _ _, ?_, rfl⟩
            rw [← HI.out.2.2.1, show (34 - (⟨(e : Int), p, kk⟩ : Nd).d).toNat = (34 - (child ⟨(e : Int), p, kk⟩ (bit ⟨(e : Int), p, kk⟩ a)).d).toNat + 1 by simp [child]; omega]
            rfl)
          clear hq hr hCN c9 o1 o2 o3 o4 o5
          go_wp2
          clear c8 y8
          refine wp_region_grown_tail 9 (by kernel_rfl) (by kernel_rfl) ?_
          simp only [List.take_succ_cons, List.take_zero, List.drop_succ_cons, List.drop_zero]
          refine wpQuiet_load rfl 91 (.tmp 7) rfl rfl HL.out ?_
          iterate 4 (quiet_step (fail))
          quiet_step ((exact Calls.grown_of_same (HSZ.out _)))
          iterate 2 (quiet_step (fail))
          quiet_step ((exact Calls.grown_of (HCH.out _ rfl _)))
          refine wpQuiet_nil ?_
          rintro _ ⟨s, rfl⟩
          have B2 := hid (row_of s.g HI.out.2.2.2.2 (by simp))
          have GS := hid s.g
          generalize s.val = W5 at *
          clear cD HL
          go_wp2_with (first
            | (refine wpList_storeTYg rfl 91 (.tmp 7) (.tmp 42) rfl rfl rfl (tyN CN HNX.out.2.1.1) B2.out (by rw [ncells_len _ HNX.out.2.1.1, List.size_toArray, ncells_len _ HI.out.2.1.1]) ?_; intro W6 g6 h6; have G6 := hid g6; have H6 := hid h6; clear g6 h6)
            | fail)
          have c10 := (ncell0 H6.out).1
          go_frame
          go_roundw
          case rel => exact ⟨CN, hid ⟨HNX.out.1, HNX.out.2.1, HNX.out.2.2.1, grown_trans (grown_trans HI.out.2.2.2.1 (grown_none GS.out)) G6.out, H6.out⟩⟩
          case measure =>
            rw [MU.out, c10]
            show (34 - CN.d).toNat < (34 - (e : Int)).toNat
            rw [HNX.out.2.2.2]
            omega
        · have t1 : decide ((e : Int) < 34) = false := by simp; omega
          have hde : DN = ⟨(e : Int), p, kk⟩ := by
            have h := HI.out.2.2.1
            simp only at h
            rw [show (34 - (e : Int)).toNat = 0 by omega] at h
            exact h.symm
          have HDE := hid (show DN.k = kk by rw [hde])
          have Z5 := hid (row_of HI.out.2.2.2.1 (row_of G4.out Z1.out (by simp)) (by have := HB.out; have := HS0.out; have := H2S.out; have := H3S.out; simp; omega))
          clear hde
          go_wp2_with (first
            | (refine wpList_loadAt rfl 29 (.tmp 43) rfl rfl (tyD kk HI.out.2.1.1) (key_range HI.out.2.2.2.2) ?_)
            | (refine wpList_storeTYg rfl 29 (.tmp 4) (.tmp 44) rfl rfl rfl (tyD kk HI.out.2.1.1) Z5.out (by rw [bv_length, HI.out.2.1.1]; rfl) ?_; intro w7 g7 h7; have G7 := hid g7; have H7 := hid h7; clear g7 h7)
            | fail)
          exact bodyPost_ret (results_ct (p := 4) (q := 5) (b0 := w.heap.size + 1) rfl rfl rfl (tyD kk HI.out.2.1.1) H7.out) rfl ⟨by rw [HZ.out]; show _ = Ending.returned (.tuple #[dval DN.k, _]); rw [HDE.out]; rfl, grown_newR (grown_newR (grown_trans G3.out G4.out) HI.out.2.2.2.1 (by have := HB.out; have := G3.out.size; omega)) G7.out (by omega)⟩
  · have HVL := hid hv
    simp only [Bool.not_eq_true] at hv
    simp only [hv]
    clear hv
    have HZ := hid (show gl = (zero32, 1) by rw [HV.out]; unfold leafOf; rw [if_neg (by rw [Bool.and_eq_true]; exact fun h => HVL.out h.2)])
    go_wp2_with (first
      | (refine wpList_buildR rfl 29 _ rfl #[] (by simp) (bD0 _) ?_)
      | (refine wpList_storeTYg rfl 29 (.tmp 4) (.tmp 19) rfl rfl rfl (tyD zero32 rfl) Z1.out rfl ?_; intro w5 g5 h5; have G5 := hid g5; have H5 := hid h5; clear g5 h5)
      | fail)
    exact bodyPost_ret (results_ct (p := 4) (q := 5) (b0 := w.heap.size + 1) rfl rfl rfl (tyD zero32 rfl) H5.out) rfl ⟨by rw [HZ.out]; rfl, grown_newR G2.out G5.out (by omega)⟩
end

end Go.Proofs.Yteakoleceoclkaa
