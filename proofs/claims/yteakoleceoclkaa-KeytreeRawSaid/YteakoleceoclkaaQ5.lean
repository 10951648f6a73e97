/- A region that draws: moves are taken first; then quiet operations in a given order, a tail in one forced order behind them. -/
import Derived.Test.YteakoleceoclkaaQ4
namespace Go.Proofs.Yteakoleceoclkaa
open Go.RowKit

section
variable {P : Program} {ops : Array Oper} {md : Region.Mode} {C : World → Prop}
def lexP (md : Region.Mode) (ops : Array Oper) (g n : Nat) : List Nat → Array Bool → Bool
  | [], listed => Region.seqB md ops g n listed
  | i :: is, listed => (Region.ready md ops listed).contains i && Region.free md ops listed i && decide (i < n) && lexP md ops g n is (listed.setIfInBounds i true)
def sinkP (md : Region.Mode) (ops : Array Oper) (n : Nat) (is : List Nat) : Bool :=
  is.all fun i => (List.range (n + 1)).any fun j => decide (i < j) && Region.waitsFor md ops j i && (decide (j = n) || is.contains j)
def headB (md : Region.Mode) (ops : Array Oper) (n : Nat) (listed : Array Bool) : Bool :=
  decide (listed.size = ops.size) &&
  ((List.range ops.size).all fun j => !(listed.getD j false) || match ops[j]? with | none => true | some oj => oj.after.toList.all fun e => !(Region.binds md e) || listed.getD e.on false) &&
  (List.range ops.size).all fun t => decide (t < n) || !(listed.getD t true)
theorem headB_spec {n : Nat} {listed : Array Bool} (h : headB md ops n listed = true) : HeadInv md ops n listed := by
  unfold headB at h
  simp only [Bool.and_eq_true, decide_eq_true_eq] at h
  obtain ⟨⟨h1, h2⟩, h3⟩ := h
  refine ⟨h1, fun j oj hj hl e he hb => ?_, fun t ht htl => ?_⟩
  · have h4 := List.all_eq_true.1 h2 j (List.mem_range.2 (Array.getElem?_eq_some_iff.1 hj).1)
    simp only [hl, hj, Bool.not_true, Bool.false_or] at h4
    have h5 := List.all_eq_true.1 h4 e (by simpa using he)
    simpa [hb] using h5
  · have h4 := List.all_eq_true.1 h3 t (List.mem_range.2 htl)
    simp only [Bool.or_eq_true, decide_eq_true_eq, Bool.not_eq_true'] at h4
    rcases h4 with h4 | h4
    · omega
    · exact h4
theorem tail_waitsP {n : Nat} {is : List Nat} (hs : sinkP md ops n is = true) (hc : Region.chainB md ops n = true) (hn : n < ops.size) {listed : Array Bool} (inv : HeadInv md ops n listed) :
    ∀ (d i : Nat), n - i = d → i ∈ is → i < n → listed.getD i true = false → ∀ t, n ≤ t → t ∉ Region.ready md ops listed := by
  intro d
  induction d using Nat.strongRecOn with
  | _ d ih =>
    intro i hd hmem hi hun t ht hr
    obtain ⟨_, ot, hot, hall⟩ := mem_ready.1 hr
    have htlt : t < ops.size := (Array.getElem?_eq_some_iff.1 hot).1
    by_cases htn : t = n
    · subst htn
      have h1 := List.all_eq_true.1 hs i hmem
      obtain ⟨j, hj, hj2⟩ := List.any_eq_true.1 h1
      simp only [Bool.and_eq_true, decide_eq_true_eq, Bool.or_eq_true] at hj2
      obtain ⟨⟨hij, hj2⟩, hj3⟩ := hj2
      obtain ⟨oj, hoj, e, he, hb, hon⟩ := Region.waitsFor_spec hj2
      have hjle : j ≤ t := by have := List.mem_range.1 hj; omega
      by_cases hjt : j = t
      · subst hjt
        have : oj = ot := Option.some.inj (hoj.symm.trans hot)
        subst this
        have h2 := hall e he hb
        rw [hon, getD_both hun] at h2
        cases h2
      · have hjm : j ∈ is := by
          rcases hj3 with h | h
          · exact absurd h hjt
          · simpa using h
        cases hl : listed.getD j false with
        | true =>
          have h2 := inv.closed j oj hoj hl e he hb
          rw [hon, getD_both hun] at h2
          cases h2
        | false =>
          have hjs : j < listed.size := by rw [inv.size]; omega
          exact ih (t - j) (by omega) j rfl hjm (by omega) (getD_in hjs hl) t (Nat.le_refl _) hr
    · have h1 := List.all_eq_true.1 hc t (List.mem_range.2 htlt)
      simp only [Bool.or_eq_true, decide_eq_true_eq] at h1
      rcases h1 with h1 | h1
      · omega
      · obtain ⟨o', ho', e, he, hb, hon⟩ := Region.waitsFor_spec h1
        have : o' = ot := Option.some.inj (ho'.symm.trans hot)
        subst this
        have h2 := hall e he hb
        rw [hon, getD_both (inv.tail (t - 1) (by omega) (by omega))] at h2
        cases h2
theorem wpHeadQ_firstP {n i : Nat} {is : List Nat} {oi : Oper} {v : Value} {L : Array Bool → Act → Prop} (hi : ops[i]? = some oi) (hsel : ∀ (j : Nat) (o : Oper) cs b, ops[j]? = some o → o.op ≠ .select cs b)
    (hs : sinkP md ops n is = true) (hc : Region.chainB md ops n = true) (hn : n < ops.size) (hmem : i ∈ is) (hin : i < n)
    (hdone : ∀ listed a, L listed a → ∀ j ∈ Region.ready md ops listed, n ≤ j) :
    ∀ (f : Nat) (listed : Array Bool) (a : Act), HeadInv md ops n listed →
      (∀ j oj, ops[j]? = some oj → j ≠ i → listed.getD j true = false → (∀ e ∈ oj.after, Region.binds md e = true → e.on ≠ i) → oi.apart ops oj = true) →
      i ∈ Region.ready md ops listed → YieldsIn P ops C oi v a →
      wpHeadQ P md ops C n L f (listed.setIfInBounds i true) (a.put oi.dst v) → wpHeadQ P md ops C n L (f + 1) listed a := by
  intro f
  induction f with
  | zero =>
    intro listed a inv _ hr hy H
    have hun := (mem_ready.1 hr).1
    refine ⟨fun h => (by rw [h] at hr; cases hr), fun j hj => ?_⟩
    have hjn : j < n := by
      rcases Nat.lt_or_ge j n with h | h
      · exact h
      · exact absurd hj (tail_waitsP hs hc hn inv _ i rfl hmem hin hun j h)
    refine ⟨hjn, ?_⟩
    by_cases hji : j = i
    · subst hji; exact hy.qOp hi H
    · have := hdone _ _ H j (ready_mono hj hji)
      omega
  | succ f ih =>
    intro listed a inv hfree hr hy H
    have hun := (mem_ready.1 hr).1
    refine ⟨fun h => (by rw [h] at hr; cases hr), fun j hj => ?_⟩
    have hjn : j < n := by
      rcases Nat.lt_or_ge j n with h | h
      · exact h
      · exact absurd hj (tail_waitsP hs hc hn inv _ i rfl hmem hin hun j h)
    refine ⟨hjn, ?_⟩
    by_cases hji : j = i
    · subst hji; exact hy.qOp hi H
    · have h1 := (H.2 j (ready_mono hj hji)).2
      obtain ⟨hjun, oj, hoj, hall⟩ := mem_ready.1 hj
      have hnot : ∀ e ∈ oj.after, Region.binds md e = true → e.on ≠ i := fun e he hb heq => by
        have h1 := hall e he hb
        rw [heq, getD_both hun] at h1
        cases h1
      have h2 := qOp_put hoj (hfree j oj hoj hji hjun hnot) (fun cs b => hsel i oi cs b hi) (fun cs b => hsel j oj cs b hoj) hy h1
      have hfree' : ∀ k ok, ops[k]? = some ok → k ≠ i → (listed.setIfInBounds j true).getD k true = false →
          (∀ e ∈ ok.after, Region.binds md e = true → e.on ≠ i) → oi.apart ops ok = true := fun k ok hk hki hun hno => by
        refine hfree k ok hk hki ?_ hno
        by_cases hjk : j = k
        · subst hjk; exact hjun
        · rw [getD_set_ne true hjk] at hun; exact hun
      refine qOp_mono (fun a' h3 => ih (listed.setIfInBounds j true) a' (inv.set hj hjn) hfree' (ready_mono hr (Ne.symm hji)) h3.1 ?_) h2
      rw [Array.setIfInBounds_comm _ _ hji]
      exact h3.2
theorem wpHeadQ_lexP {n g : Nat} {is0 : List Nat} {Lq : Act → Prop} (hsel : Region.noSelect ops = true) (hs : sinkP md ops n is0 = true) (hc : Region.chainB md ops n = true) (hn : n < ops.size) :
    ∀ (is : List Nat) (listed : Array Bool) (a : Act), (∀ i ∈ is, i ∈ is0) → HeadInv md ops n listed →
    lexP md ops g n is listed = true → wpQuiet P ops C Lq (is.filterMap fun i => ops[i]?) a →
    wpHeadQ P md ops C n (fun listed' a' => Region.seqB md ops g n listed' = true ∧ Lq a') is.length listed a
  | [], listed, a, _, _, hB, h => ⟨by simpa [lexP] using hB, h⟩
  | i :: is, listed, a, hm, inv, hB, h => by
    simp only [lexP, Bool.and_eq_true, decide_eq_true_eq] at hB
    obtain ⟨⟨⟨hr, hf⟩, hin⟩, hB'⟩ := hB
    have hr' : i ∈ Region.ready md ops listed := by simpa using hr
    obtain ⟨_, o, h0, _⟩ := mem_ready.1 hr'
    have h' : wpQuiet P ops C Lq (o :: is.filterMap fun i => ops[i]?) a := by simpa [List.filterMap_cons, h0] using h
    have hst : qOp P ops C i (wpQuiet P ops C Lq (is.filterMap fun i => ops[i]?)) a := by unfold qOp; simp only [h0]; exact h'
    obtain ⟨v, hy, hK⟩ := yieldsIn_of_qOp h0 hst
    exact wpHeadQ_firstP h0 (Region.noSelect_spec hsel) hs hc hn (hm i List.mem_cons_self) hin (fun listed' a' hL => seqB_ready hL.1) is.length listed a inv (Region.free_spec h0 hf) hr' hy
      (wpHeadQ_lexP hsel hs hc hn is _ _ (fun j hj => hm j (List.mem_cons_of_mem _ hj)) (inv.set hr' hin) hB' hK)
end
/-- behind moves that were taken first: quiet operations in a given order, a tail in one forced order -/
theorem wpAny_heads {P : Program} {Q : Exit → Act → World → Prop} {l : List Oper} {a : Act} {w : World} {listed : Array Bool} {f : Nat} (n : Nat) (is : List Nat)
    (hsel : Region.noSelect l.toArray = true) (hn : n < l.toArray.size) (hs : sinkP .any l.toArray n is = true) (hc : Region.chainB .any l.toArray n = true) (hh : headB .any l.toArray n listed = true) (hB : lexP .any l.toArray (l.toArray.size - n) n is listed = true) (hf : f = is.length + (l.toArray.size - n))
    (h : wpQuiet P l.toArray (fun w' => ∃ s : Gw w, w' = s.val) (fun a' => ∀ w', (∃ s : Gw w, w' = s.val) → wpList P l.toArray Q (l.drop n) a' w') (is.filterMap fun i => l.toArray[i]?) a) :
    wpAny P .any l.toArray Q f listed a w := by
  subst hf
  have hdl : (l.drop n).length = l.toArray.size - n := by simp
  have H := wpHeadQ_lexP (md := .any) (g := l.toArray.size - n) hsel hs hc hn is listed a (fun _ h => h) (headB_spec hh) hB h
  exact wpAny_of_headQ (Q' := Q) (g := l.toArray.size - n) (fun listed' a' w' hw' hL => by
    have := wpAny_of_seq (md := .any) (Q' := Q) (l.drop n) n listed' a' w' (fun j => by simp [List.getElem?_drop]) (by rw [hdl]; exact hL.1) (hL.2 w' hw')
    rwa [hdl] at this) _ _ _ w ⟨⟨w, World.grownBy.refl w none⟩, rfl⟩ H
/-- a bare move is taken first -/
theorem wpAny_move {P : Program} {ops : Array Oper} {md : Region.Mode} {Q : Exit → Act → World → Prop} {i : Nat} {oi : Oper} {v : Value} {fuel : Nat} {listed : Array Bool} {a : Act} {w : World} (hi : ops[i]? = some oi)
    (hs : Region.noSelect ops = true) (hf : Region.free md ops listed i = true) (hr : (Region.ready md ops listed).contains i = true) (hQ : ∀ c a w, Q (.panic c) (a.put oi.dst v) w → Q (.panic c) a w)
    (hg : oi.guard = none) (x : Operand) (ho : oi.op = .move x) (hx : a.eval x = v)
    (h : wpAny P md ops Q fuel (listed.setIfInBounds i true) (a.put oi.dst v) w) : wpAny P md ops Q (fuel + 1) listed a w :=
  wpAny_take hi hs hf hr hQ (Or.inl ⟨by simp [Region.wanted, hg], fun w => by simp [execOp, ho, hx]⟩) h
end Go.Proofs.Yteakoleceoclkaa
