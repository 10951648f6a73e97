/- The evaluator: every order of a region that has a plan does the same. -/
import Derived.Test.YtbddollbjajcnaaGreatX22
namespace Go.Proofs.YtbddollbjajcnaaGreat
open Go
noncomputable section
set_option linter.unusedVariables false
set_option linter.unusedSimpArgs false
variable {P : Program}
def dn (listed : Array Bool) (i : Nat) : Bool := listed.getD i false
theorem dn_set {listed : Array Bool} {i : Nat} (hi : i < listed.size) (j : Nat) : dn (listed.setIfInBounds i true) j = (decide (j = i) || dn listed j) := by
  unfold dn
  rw [Array.getD_eq_getD_getElem?, Array.getD_eq_getD_getElem?]
  by_cases e : i = j
  · subst e
    rw [Array.getElem?_setIfInBounds_self_of_lt hi]
    simp
  · rw [Array.getElem?_setIfInBounds_ne e]
    have : ¬ j = i := fun q => e q.symm
    simp [this]
structure InvR (L : List Slot) (f0 : XF) (s0 S0 : XS) (α0 : XM) (w0 : World) (ds : List Deferred) (listed : Array Bool) (a : Act) (w : World) (α : XM) (h : XH) (q : Nat) : Prop where
  size : listed.size = L.length
  closed : ∀ i sl, dn listed i = true → L[i]? = some sl → ∀ m, has sl.mask m = true → dn listed m = true
  hf : HF α h (stAt L S0 q).next (stAt L S0 q).k w
  gf : GF α0 s0 w0 α h (stAt L S0 q).next (stAt L S0 q).k w
  ks : KS s0.k (stAt L S0 q).k
  base : BaseR (stAt L S0 q)
  nx : S0.next.nat ≤ (stAt L S0 q).next.nat
  h1 : ∀ b o, XT.get b (stAt L S0 q).heap = some o → h b = some o
  h2 : ∀ i sl n b x, L[i]? = some sl → sl.k = .fresh n b x → dn listed i = true → has (mAt L q) i = false → h n = some b
  h3 : ∀ i sl n b x, L[i]? = some sl → sl.k = .fresh n b x → has (mAt L q) i = false → XT.get n (stAt L S0 q).heap = none
  h4 : ∀ i sl n b x, L[i]? = some sl → sl.k = .fresh n b x → dn listed i = false → α n = none
  h7 : ∀ b o, h b = some o → b.nat < s0.next.nat → XT.get b (stAt L S0 q).heap = some o
  qq : q = 0 ∨ ∃ c u, L[c]? = some u ∧ u.isCh = true ∧ q = c + 1
  chq : ∀ c u, L[c]? = some u → u.isCh = true → (dn listed c = true ↔ c < q)
  mq : ∀ i, has (mAt L q) i = true → dn listed i = true
  tsz : a.tmps.size = f0.n
  fr : ∀ t v, t < f0.n → valD (dn listed) t 0 L (XT.get (XP.key t) f0.tm) = some v → VR α v (a.tmps.getD t undef)
  df : a.defers = ds
theorem fold_nochain {L : List Slot} {S : XS} {i j : Nat} (hij : i ≤ j) (hno : ∀ c u, L[c]? = some u → u.isCh = true → ¬ (i ≤ c ∧ c < j)) : stAt L S i = stAt L S j ∧ mAt L i = mAt L j := by
  induction j with
  | zero => have : i = 0 := by omega
            subst this; exact ⟨rfl, rfl⟩
  | succ j ih =>
    by_cases e : i = j + 1
    · subst e; exact ⟨rfl, rfl⟩
    · have h1 := ih (by omega) fun c u hc hu hb => hno c u hc hu ⟨hb.1, by omega⟩
      cases hL : L[j]? with
      | none =>
        have : L.take (j + 1) = L.take j := by rw [List.take_add_one, hL]; simp
        unfold stAt mAt at *
        rw [this]
        exact h1
      | some sl =>
        have hs : stAt L S (j + 1) = stS (stAt L S j) sl := take_succ_fold stS S hL
        have hm : mAt L (j + 1) = mS (mAt L j) sl := take_succ_fold mS 0 hL
        have hc : sl.isCh = false := by
          cases hcc : sl.isCh with
          | false => rfl
          | true => exact absurd ⟨by omega, by omega⟩ (hno j sl hL hcc)
        rw [hs, hm]
        unfold stS mS
        unfold Slot.isCh at hc
        cases hk : sl.k <;> simp [hk] at hc ⊢ <;> exact h1
theorem cover_base {L : List Slot} {base : XP} {m : Nat → Bool} {M : Nat} {S s : XS} (c : Cover L base m M S s) (h : BaseR S) (hl : S.k.lo ≤ base.nat) (ht : ∀ p q, S.k.tape = some (p, q) → p.nat < base.nat) : BaseR s := by
  refine ⟨fun b o hb => ?_, fun p q hp => ?_⟩
  · rw [c.k] at hb ⊢
    obtain ⟨h1, h2⟩ := h.1 b o hb
    exact ⟨by rw [c.low b (Nat.lt_of_lt_of_le h2 hl)]; exact h1, h2⟩
  · rw [c.k] at hp
    rw [c.low p (ht p q hp)]
    exact h.2 p q hp
theorem HR.live_lt {α : XM} {s : XS} {w : World} (h : HR α s w) {b : XP} {o : XO} (hb : XT.get b s.heap = some o) : b.nat < s.next.nat := by
  obtain ⟨l, h1, _⟩ := h.live b o hb
  rcases Nat.lt_or_ge b.nat s.next.nat with q | q
  · exact q
  · rw [h.fresh b q] at h1; cases h1
theorem mix_same {s : XS} {h : XH} (hs : ∀ b o, XT.get b s.heap = some o → h b = some o) : mixH s s h = h := by
  funext b
  unfold mixH
  cases hb : XT.get b s.heap with
  | some o => exact (hs b o hb).symm
  | none =>
    cases hh : h b with
    | some o => simp only [hh]
    | none => simp only [hh, hb]
section
variable {ops : Array Oper} {L : List Slot} {f0 : XF} {s0 S0 : XS} {α0 α : XM} {w0 w : World} {ds : List Deferred} {listed : Array Bool} {a : Act} {h : XH} {q : Nat}
theorem InvR.cov (I : InvR L f0 s0 S0 α0 w0 ds listed a w α h q) (H0 : HR α0 s0 w0) {m : Nat → Bool} (hm : ∀ i, m i = true → dn listed i = true) {s : XS} (c : Cover L s0.next m (mAt L q) (stAt L S0 q) s) : (∀ b o, XT.get b s.heap = some o → h b = some o) ∧ HR α s w := by
  have hs : ∀ b o, XT.get b s.heap = some o → h b = some o := fun b o hb => by
    rcases c.snd b o hb with h1 | ⟨i, sl, x, h1, h2, h3, h4⟩
    · exact I.h1 b o h1
    · exact I.h2 i sl b o x h1 h2 (hm i h3) h4
  exact ⟨hs, I.hf.sub hs c.next c.k (cover_base c I.base (by rw [I.ks.1]; exact H0.low) (fun p q hp => H0.live_lt (H0.base.2 p q (by rw [← I.ks.2.1]; exact hp))))⟩
/-- the part of the frame that the operation looks at is as in the order of the text -/
theorem InvR.frame (I : InvR L f0 s0 S0 α0 w0 ds listed a w α h q) (hp : PlanOK P ops.toList L f0 s0 S0) (hn : f0.n ≤ 1000000) {i : Nat} {sl : Slot} (hi : L[i]? = some sl) (hd : dn listed i = false) (hmask : ∀ m, has sl.mask m = true → dn listed m = true) : FR1 α (rs (frAt L f0 i) (looksO ops.toList sl.o)) a := by
  have hfn : (frAt L f0 i).n = f0.n := foldS_n _ _
  refine ⟨by show a.tmps.size = (frAt L f0 i).n; rw [hfn]; exact I.tsz, by show (frAt L f0 i).n ≤ _; rw [hfn]; exact hn, fun t v ht hv => ?_⟩
  have ht : t < (frAt L f0 i).n := ht
  obtain ⟨h1, h2⟩ := rs_get (by rw [hfn]; exact hn) ht hv
  rw [hfn] at ht
  rw [frAt_val hn ht hp.dst i] at h2
  refine I.fr t v ht ?_
  rw [← h2]
  refine valD_agree L 0 _ fun j u hu hdst => ?_
  rw [Nat.zero_add]
  obtain ⟨h3, h4⟩ := hp.temps i j sl u t hi hu hdst (.inl h1)
  by_cases e : j < i
  · rw [hmask j (h3 e)]
    simp [e]
  · by_cases e2 : j = i
    · subst e2
      rw [hd]
      simp
    · have h5 := h4 (by omega)
      cases hj : dn listed j with
      | false => simp [e]
      | true =>
        have := I.closed j u hj hu i h5
        rw [hd] at this
        cases this
theorem valD_step (hp : PlanOK P ops.toList L f0 s0 S0) (hsz : listed.size = L.length) (hcl : ∀ i sl, dn listed i = true → L[i]? = some sl → ∀ m, has sl.mask m = true → dn listed m = true) {i : Nat} {sl : Slot} (hi : L[i]? = some sl) (hd : dn listed i = false) (t : Nat) (v0 : Option XV) :
    valD (dn (listed.setIfInBounds i true)) t 0 L v0 = if sl.o.dst = some t then sl.val else valD (dn listed) t 0 L v0 := by
  have hlt : i < listed.size := by rw [hsz]; exact (List.getElem?_eq_some_iff.1 hi).1
  by_cases e : sl.o.dst = some t
  · rw [if_pos e]
    refine valD_last L 0 v0 i sl hi e (by rw [Nat.zero_add, dn_set hlt]; simp) fun j u hj hu hdst => ?_
    rw [Nat.zero_add, dn_set hlt]
    have hne : ¬ j = i := by omega
    simp only [hne, decide_false, Bool.false_or]
    cases hjd : dn listed j with
    | false => rfl
    | true =>
      have h5 := (hp.temps i j sl u t hi hu hdst (.inr e)).2 hj
      have := hcl j u hjd hu i h5
      rw [hd] at this
      cases this
  · rw [if_neg e]
    refine valD_agree L 0 v0 fun j u hu hdst => ?_
    rw [Nat.zero_add, dn_set hlt]
    have hne : ¬ j = i := fun e2 => by
      subst e2
      rw [hi] at hu
      cases hu
      exact e hdst
    simp [hne]
theorem put_frame {β : XM} (hle : α.le β) (hp : PlanOK P ops.toList L f0 s0 S0) (hsz : listed.size = L.length) (hcl : ∀ i sl, dn listed i = true → L[i]? = some sl → ∀ m, has sl.mask m = true → dn listed m = true) {i : Nat} {sl : Slot} (hi : L[i]? = some sl) (hd : dn listed i = false)
    (tsz : a.tmps.size = f0.n) (fr : ∀ t v, t < f0.n → valD (dn listed) t 0 L (XT.get (XP.key t) f0.tm) = some v → VR α v (a.tmps.getD t undef)) {v : Value} (hv : ∀ x, sl.val = some x → VR β x v) :
    (a.put sl.o.dst v).tmps.size = f0.n ∧ ∀ t y, t < f0.n → valD (dn (listed.setIfInBounds i true)) t 0 L (XT.get (XP.key t) f0.tm) = some y → VR β y ((a.put sl.o.dst v).tmps.getD t undef) := by
  constructor
  · unfold Act.put
    split <;> simp [tsz]
  · intro t y ht hy
    rw [valD_step hp hsz hcl hi hd] at hy
    by_cases e : sl.o.dst = some t
    · rw [if_pos e] at hy
      rw [e]
      show VR β y ((a.tmps.setIfInBounds t v).getD t undef)
      rw [Array.getD_eq_getD_getElem?, Array.getElem?_setIfInBounds_self_of_lt (by rw [tsz]; exact ht)]
      exact hv y hy
    · rw [if_neg e] at hy
      have := (fr t y ht hy).mono hle
      cases hdst : sl.o.dst with
      | none => exact this
      | some d =>
        have hne : d ≠ t := fun q => e (by rw [hdst, q])
        show VR β y ((a.tmps.setIfInBounds d v).getD t undef)
        rw [Array.getD_eq_getD_getElem?, Array.getElem?_setIfInBounds_ne hne, ← Array.getD_eq_getD_getElem?]
        exact this
theorem put_defers (a : Act) (d : Option Tmp) (v : Value) : (a.put d v).defers = a.defers := by
  unfold Act.put
  split <;> rfl
/-- what is known of the listed operations behind one more -/
theorem InvR.lists (I : InvR L f0 s0 S0 α0 w0 ds listed a w α h q) {i : Nat} {sl : Slot} (hi : L[i]? = some sl) (hd : dn listed i = false) (hmask : ∀ m, has sl.mask m = true → dn listed m = true) :
    (listed.setIfInBounds i true).size = L.length ∧ (∀ j, dn (listed.setIfInBounds i true) j = (decide (j = i) || dn listed j)) ∧ (∀ j u, dn (listed.setIfInBounds i true) j = true → L[j]? = some u → ∀ m, has u.mask m = true → dn (listed.setIfInBounds i true) m = true) := by
  have hlt : i < listed.size := by rw [I.size]; exact (List.getElem?_eq_some_iff.1 hi).1
  refine ⟨by simp [I.size], dn_set hlt, fun j u hj hu m hm => ?_⟩
  rw [dn_set hlt] at hj ⊢
  by_cases e : j = i
  · subst e
    rw [hi] at hu
    cases hu
    rw [hmask m hm]
    simp
  · simp only [e, decide_false, Bool.false_or] at hj
    rw [I.closed j u hj hu m hm]
    simp
/-- an operation that changes no state -/
theorem InvR.still (I : InvR L f0 s0 S0 α0 w0 ds listed a w α h q) (hp : PlanOK P ops.toList L f0 s0 S0) {i : Nat} {sl : Slot} (hi : L[i]? = some sl) (hd : dn listed i = false) (hmask : ∀ m, has sl.mask m = true → dn listed m = true) (hc : sl.isCh = false)
    (hnf : ∀ n b x, sl.k ≠ .fresh n b x) {β : XM} {w' : World} (hf : HF β h (stAt L S0 q).next (stAt L S0 q).k w') (gf : GF α0 s0 w0 β h (stAt L S0 q).next (stAt L S0 q).k w') (hle : α.le β) (hold : ∀ b, b.nat < (stAt L S0 q).next.nat → β b = α b) {v : Value} (hv : ∀ x, sl.val = some x → VR β x v) :
    InvR L f0 s0 S0 α0 w0 ds (listed.setIfInBounds i true) (a.put sl.o.dst v) w' β h q := by
  obtain ⟨l1, l2, l3⟩ := I.lists hi hd hmask
  obtain ⟨p1, p2⟩ := put_frame hle hp I.size I.closed hi hd I.tsz I.fr hv
  refine ⟨l1, l3, hf, gf, I.ks, I.base, I.nx, I.h1, fun j u n b x hj hk hdj hm => ?_, I.h3, fun j u n b x hj hk hdj => ?_, I.h7, I.qq, fun c u hcu hch => ?_, fun j hj => by rw [l2, I.mq j hj]; simp, p1, p2, by rw [put_defers]; exact I.df⟩
  · rw [l2] at hdj
    by_cases e : j = i
    · subst e
      rw [hi] at hj
      cases hj
      exact absurd hk (hnf n b x)
    · simp only [e, decide_false, Bool.false_or] at hdj
      exact I.h2 j u n b x hj hk hdj hm
  · rw [l2] at hdj
    simp only [Bool.or_eq_false_iff] at hdj
    have h4 := I.h4 j u n b x hj hk hdj.2
    obtain ⟨e1, _⟩ := hp.fresh j u n b x hj hk
    rw [hold n (by
      have := I.nx
      have := hp.next
      have := (List.getElem?_eq_some_iff.1 hj).1
      omega)]
    exact h4
  · rw [l2]
    have e : c ≠ i := fun e => by
      subst e
      rw [hi] at hcu
      cases hcu
      rw [hc] at hch
      cases hch
    simp only [e, decide_false, Bool.false_or]
    exact I.chq c u hcu hch
end
end
end Go.Proofs.YtbddollbjajcnaaGreat
