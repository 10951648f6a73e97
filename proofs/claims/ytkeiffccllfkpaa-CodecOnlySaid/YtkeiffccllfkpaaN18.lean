/- A region that keeps its order, by what is told of each operation. -/
import Derived.Test.YtkeiffccllfkpaaN6
namespace Go.Proofs.Ytkeiffccllfkpaa
open Go.RowKit

theorem OpSays.wpList {P : Program} {ops : Array Oper} {Q : Exit → Act → World → Prop} {o : Oper} {rest : List Oper} {a : Act} {w : World} {R : Value → World → Prop}
    (h : OpSays P ops o a w R) (hk : ∀ v w', R v w' → Go.wpList P ops Q rest (a.put o.dst v) w') : Go.wpList P ops Q (o :: rest) a w := by
  unfold Go.wpList
  unfold OpSays at h
  split
  · rename_i hw
    rw [if_pos hw] at h
    refine .inl ?_
    unfold Oper.wp
    generalize (execOp a.eval o).run P w = r at *
    cases r with
    | ok n w' =>
      cases n <;> simp only [Oper.upon] at h ⊢
      all_goals first
        | exact h.elim
        | exact hk _ _ h
        | exact h.mono fun e w'' ⟨v, he, hr⟩ => by subst he; exact hk _ _ hr
    | halt x w' => cases x <;> exact h.elim
  · rename_i hw
    rw [if_neg hw] at h
    exact hk _ _ h
theorem seq_rel {P : Program} {Q : Exit → Act → World → Prop} {ops : Array Oper} {n : Nat} {L : List Sp} {w0 : World} {ds : List Deferred} (hB : regB ops n = true)
    (ob : ∀ (i : Nat) (o : Oper), ops[i]? = some o → ∀ a w, w0.grownBy w none → (∀ t ∈ o.looksAt ops, t < n → At L t w (a.tmps.getD t undef)) → a.tmps.size = n →
      OpSays P ops o a w fun v w' => w.grownBy w' none ∧ ∀ d, o.dst = some d → At L d w' v)
    (hQ : ∀ a w, w0.grownBy w none → a.defers = ds → a.tmps.size = n → (∀ t, t < n → At L t w (a.tmps.getD t undef)) → Q .normal a w) :
    ∀ (m k : Nat), m + k = ops.size → ∀ (a : Act) (w : World), w0.grownBy w none → a.defers = ds → a.tmps.size = n →
      (∀ t, t < n → ((∀ (i : Nat) (o : Oper), ops[i]? = some o → o.dst ≠ some t) ∨ ∃ (i : Nat) (o : Oper), i < k ∧ ops[i]? = some o ∧ o.dst = some t) → At L t w (a.tmps.getD t undef)) →
      Go.wpList P ops Q (ops.toList.drop k) a w
  | 0, k, hmk, a, w, hg, hd, has, hk => by
    have e : ops.toList.drop k = [] := by rw [List.drop_eq_nil_iff]; simp; omega
    rw [e]
    refine wpList_nil (hQ a w hg hd has fun t ht => hk t ht ?_)
    by_cases hex : ∃ (i : Nat) (o : Oper), ops[i]? = some o ∧ o.dst = some t
    · obtain ⟨i, o, hi, hd⟩ := hex
      have := (Array.getElem?_eq_some_iff.1 hi).1
      exact .inr ⟨i, o, by omega, hi, hd⟩
    · exact .inl fun i o hi hd => hex ⟨i, o, hi, hd⟩
  | m + 1, k, hmk, a, w, hg, hd, has, hk => by
    have hlt : k < ops.size := by omega
    have ho : ops[k]? = some ops[k] := Array.getElem?_eq_getElem hlt
    have e : ops.toList.drop k = ops[k] :: ops.toList.drop (k + 1) := by
      rw [List.drop_eq_getElem_cons (by simpa using hlt)]
      simp
    rw [e]
    obtain ⟨s1, s2, s3⟩ := regB_spec hB ho
    refine OpSays.wpList (ob k ops[k] ho a w hg (fun t ht htn => hk t htn ?_) has) ?_
    · by_cases hex : ∃ (j : Nat) (oj : Oper), ops[j]? = some oj ∧ oj.dst = some t
      · obtain ⟨j, oj, hj, hdj⟩ := hex
        obtain ⟨e, he, rfl, hb⟩ := (s3 j oj t hj hdj).2 ht
        exact .inr ⟨e.on, oj, s1 e he, hj, hdj⟩
      · exact .inl fun j oj hj hdj => hex ⟨j, oj, hj, hdj⟩
    · rintro v w' ⟨hg', hv⟩
      refine seq_rel hB ob hQ m (k + 1) (by omega) _ _ (grown_trans hg hg') (by cases ho' : ops[k].dst <;> simp [Act.put, hd]) (by cases ho' : ops[k].dst <;> simp [Act.put, has]) ?_
      intro t htn hor
      rw [getD_put a ops[k].dst v t (fun k hk => has ▸ s2 k hk)]
      by_cases hdt : ops[k].dst = some t
      · rw [if_pos hdt]
        exact hv t hdt
      · rw [if_neg hdt]
        refine (L.getD t Sp.any).mono _ _ _ hg' (hk t htn ?_)
        rcases hor with h | ⟨j, oj, hjk, hj, hdj⟩
        · exact .inl h
        · refine .inr ⟨j, oj, ?_, hj, hdj⟩
          have hne : j ≠ k := fun e => hdt (by subst e; rw [ho] at hj; obtain rfl := Option.some.inj hj; exact hdj)
          omega
theorem region_listN {P : Program} {Q : Exit → Act → World → Prop} {id : Nat} {ops : List Oper} {l0 : List Value} {ds : List Deferred} {w0 : World} (L : List Sp) (m : List Bool)
    (hB : regB ops.toArray L.length = true) (hm2 : dstsB ops L.length = m) (hn : l0.length = L.length)
    (h0 : InitP w0 L l0 m) (ob : ObAll P ops.toArray L L.length w0 ops)
    (hQ : ∀ a w, w0.grownBy w none → a.defers = ds → a.tmps.size = L.length → (∀ t, t < L.length → At L t w (a.tmps.getD t undef)) → Q .normal a w) :
    (Code.region id ops.toArray false).wp P Q ⟨l0.toArray, ds⟩ w0 := by
  refine wp_region_list ?_
  have := seq_rel (P := P) (Q := Q) (ops := ops.toArray) (L := L) (w0 := w0) (ds := ds) hB (fun i o hi => ob.at i o (by simpa using hi)) hQ ops.length 0 (by simp) ⟨l0.toArray, ds⟩ w0 (World.grownBy.refl _ _) rfl (by simpa using hn) ?_
  · simpa using this
  · intro t ht hor
    have hml : m.length = L.length := by rw [← hm2]; simp [dstsB]
    rcases hor with hnd | ⟨_, _, hlt, _⟩
    · rcases h0.at t ht (by omega) (by omega) with h | h
      · exfalso
        rw [← hm2] at h
        simp only [dstsB, List.getD_eq_getElem?_getD, List.getElem?_map, List.getElem?_range ht, Option.map_some, Option.getD_some, List.any_eq_true, beq_iff_eq] at h
        obtain ⟨o, ho, hd⟩ := h
        obtain ⟨i, hi, rfl⟩ := List.getElem_of_mem ho
        exact hnd i ops[i] (by simp) hd
      · simpa [List.getD_eq_getElem?_getD] using h
    · omega
end Go.Proofs.Ytkeiffccllfkpaa
