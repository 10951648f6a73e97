/- The evaluator: every order of a region that has a plan does the same (2). -/
import Derived.Test.YtbddollbjajcnaaGreatX23
namespace Go.Proofs.YtbddollbjajcnaaGreat
open Go
noncomputable section
set_option linter.unusedVariables false
set_option linter.unusedSimpArgs false
variable {P : Program}
section
variable {ops : Array Oper} {L : List Slot} {f0 : XF} {s0 S0 : XS} {α0 α : XM} {w0 w : World} {ds : List Deferred} {listed : Array Bool} {a : Act} {h : XH} {q : Nat}
theorem InvR.new (I : InvR L f0 s0 S0 α0 w0 ds listed a w α h q) (H0 : HR α0 s0 w0) (hp : PlanOK P ops.toList L f0 s0 S0) {i : Nat} {sl : Slot} (hi : L[i]? = some sl) (hd : dn listed i = false) (hmask : ∀ m, has sl.mask m = true → dn listed m = true)
    {n : XP} {b : XO} {mk : XMk} (hk : sl.k = .fresh n b (mkV mk n)) {v : Value} {obj : Obj} {room : Nat} (ho : OR α (w.alloc obj) ⟨w.heap.size, room⟩ b) (hv : ∀ (β : XM) (n : XP), β n = some ⟨w.heap.size, room⟩ → VR β (mkV mk n) v) :
    InvR L f0 s0 S0 α0 w0 ds (listed.setIfInBounds i true) (a.put sl.o.dst v) (w.alloc obj) (α.put n ⟨w.heap.size, room⟩) (putH n b h) q := by
  obtain ⟨l1, l2, l3⟩ := I.lists hi hd hmask
  have hnone := I.h4 i sl n b _ hi hk hd
  obtain ⟨hn, _⟩ := hp.fresh i sl n b _ hi hk
  have hil := (List.getElem?_eq_some_iff.1 hi).1
  have hnx := I.nx
  have hnn := hp.next
  have hlt : n.nat < (stAt L S0 q).next.nat := by omega
  have hm : has (mAt L q) i = false := by
    cases e : has (mAt L q) i with
    | false => rfl
    | true => have := I.mq i e; rw [hd] at this; cases this
  have hle := XM.le_put ⟨w.heap.size, room⟩ hnone
  obtain ⟨p1, p2⟩ := put_frame (β := α.put n ⟨w.heap.size, room⟩) hle hp I.size I.closed hi hd I.tsz I.fr (v := v) (fun x hx => by
    unfold Slot.val at hx
    rw [hk] at hx
    cases hx
    exact hv _ n (XM.put_self _ _ _))
  have hapart : ∀ j u n' b' x, L[j]? = some u → u.k = .fresh n' b' x → j ≠ i → n' ≠ n := fun j u n' b' x hj hku hne e => by
    obtain ⟨e1, _⟩ := hp.fresh j u n' b' x hj hku
    subst e
    omega
  refine ⟨l1, l3, I.hf.put hnone hlt b obj room ho, I.gf.put H0 hnone (by omega) b obj room, I.ks, I.base, I.nx, fun p o hpo => ?_, fun j u n' b' x hj hku hdj hmj => ?_, I.h3, fun j u n' b' x hj hku hdj => ?_, fun p o hpo hlt => ?_, I.qq, fun c u hcu hch => ?_, fun j hj => by rw [l2, I.mq j hj]; simp, p1, p2, by rw [put_defers]; exact I.df⟩
  · have hne : p ≠ n := fun e => by
      subst e
      rw [I.h3 i sl p b _ hi hk hm] at hpo
      cases hpo
    rw [putH_ne _ _ hne]
    exact I.h1 p o hpo
  · by_cases e : j = i
    · subst e
      rw [hi] at hj
      cases hj
      rw [hk] at hku
      cases hku
      exact putH_self _ _ _
    · rw [l2] at hdj
      simp only [e, decide_false, Bool.false_or] at hdj
      rw [putH_ne _ _ (hapart j u n' b' x hj hku e)]
      exact I.h2 j u n' b' x hj hku hdj hmj
  · rw [l2] at hdj
    simp only [Bool.or_eq_false_iff] at hdj
    have e : j ≠ i := fun e => by simp [e] at hdj
    rw [XM.put_ne _ _ (hapart j u n' b' x hj hku e)]
    exact I.h4 j u n' b' x hj hku hdj.2
  · have hne : p ≠ n := fun e => by subst e; omega
    rw [putH_ne _ _ hne] at hpo
    exact I.h7 p o hpo hlt
  · rw [l2]
    have e : c ≠ i := fun e => by
      subst e
      rw [hi] at hcu
      cases hcu
      unfold Slot.isCh at hch
      rw [hk] at hch
      cases hch
    simp only [e, decide_false, Bool.false_or]
    exact I.chq c u hcu hch
theorem InvR.chainQ (I : InvR L f0 s0 S0 α0 w0 ds listed a w α h q) (hp : PlanOK P ops.toList L f0 s0 S0) {i : Nat} {sl : Slot} (hi : L[i]? = some sl) (hd : dn listed i = false) (hmask : ∀ m, has sl.mask m = true → dn listed m = true) (hc : sl.isCh = true) : stAt L S0 q = stAt L S0 i ∧ mAt L q = mAt L i := by
  have hqi : q ≤ i := by
    by_cases e : q ≤ i
    · exact e
    · have := (I.chq i sl hi hc).2 (by omega)
      rw [hd] at this
      cases this
  refine fold_nochain hqi fun c u hcu hch hb => ?_
  have h1 := hp.ch c i u sl hcu hi hch hc hb.2
  have h2 := (I.chq c u hcu hch).1 (hmask c h1)
  omega
theorem InvR.chain (I : InvR L f0 s0 S0 α0 w0 ds listed a w α h q) (H0 : HR α0 s0 w0) (hp : PlanOK P ops.toList L f0 s0 S0) {i : Nat} {sl : Slot} (hi : L[i]? = some sl) (hd : dn listed i = false) (hmask : ∀ m, has sl.mask m = true → dn listed m = true)
    {x : XV} {s t : XS} (hk : sl.k = .chain x t) (c : Cover L s0.next (has sl.mask) (mAt L q) (stAt L S0 q) s) {β : XM} {v : Value} {w' : World} (hv : VR β x v) (K : HR β t w') (g : GR α s w β t w') (ks : KS s.k t.k) :
    InvR L f0 s0 S0 α0 w0 ds (listed.setIfInBounds i true) (a.put sl.o.dst v) w' β (mixH s t h) (i + 1) := by
  obtain ⟨l1, l2, l3⟩ := I.lists hi hd hmask
  have hc : sl.isCh = true := by unfold Slot.isCh; rw [hk]
  obtain ⟨q1, q2⟩ := I.chainQ hp hi hd hmask hc
  obtain ⟨hs, hr⟩ := I.cov H0 hmask c
  have hst : stAt L S0 (i + 1) = t := by
    unfold stAt
    rw [take_succ_fold stS S0 hi]
    unfold stS
    rw [hk]
  have hma : mAt L (i + 1) = mAt L q ||| sl.mask := by
    rw [q2]
    unfold mAt
    rw [take_succ_fold mS 0 hi]
    unfold mS
    rw [hk]
  have hnext := hp.next
  have hnx := I.nx
  have hsn : s.next.nat = (stAt L S0 q).next.nat := by rw [c.next]
  obtain ⟨p1, p2⟩ := put_frame (β := β) g.le hp I.size I.closed hi hd I.tsz I.fr (v := v) (fun y hy => by
    unfold Slot.val at hy
    rw [hk] at hy
    cases hy
    exact hv)
  -- a new object that waits still: its name is not in s
  have hfresh : ∀ j u n b y, L[j]? = some u → u.k = .fresh n b y → has (mAt L q ||| sl.mask) j = false → XT.get n s.heap = none ∧ n.nat < s.next.nat := fun j u n b y hj hku hm => by
    rw [has_or, Bool.or_eq_false_iff] at hm
    obtain ⟨e1, _⟩ := hp.fresh j u n b y hj hku
    have hjl := (List.getElem?_eq_some_iff.1 hj).1
    refine ⟨?_, by omega⟩
    cases hg : XT.get n s.heap with
    | none => rfl
    | some o =>
      exfalso
      rcases c.snd n o hg with h1 | ⟨j', u', y', h1, h2, h3, h4⟩
      · rw [I.h3 j u n b y hj hku hm.1] at h1
        cases h1
      · obtain ⟨e2, _⟩ := hp.fresh j' u' n o y' h1 h2
        have : j' = j := by omega
        subst this
        rw [hm.2] at h3
        cases h3
  refine ⟨l1, l3, ?_, ?_, ?_, ?_, ?_, ?_, ?_, ?_, ?_, ?_, .inr ⟨i, sl, hi, hc, rfl⟩, ?_, ?_, p1, p2, by rw [put_defers]; exact I.df⟩
  · rw [hst]
    exact I.hf.step hs c.next c.k hr.base K g (by rw [ks.2.1, c.k])
  · rw [hst]
    exact I.gf.step I.hf hs c.next c.k I.ks.1 K g
  · rw [hst]
    exact KS.trans I.ks (by rw [← c.k]; exact ks)
  · rw [hst]
    exact K.base
  · rw [hst]
    have := g.next
    omega
  · rw [hst]
    intro b o hb
    unfold mixH
    cases hg : XT.get b s.heap with
    | some y => exact hb
    | none =>
      cases hh : h b with
      | none => simp only [hh]; exact hb
      | some y =>
        exfalso
        rcases g.nam b o hb with ⟨o', h1⟩ | h1
        · rw [hg] at h1; cases h1
        · obtain ⟨l, h2, _⟩ := I.hf.live b y hh
          rw [I.hf.fresh b (by omega)] at h2
          cases h2
  · intro j u n b y hj hku hdj hm
    rw [hma] at hm
    obtain ⟨h1, _⟩ := hfresh j u n b y hj hku hm
    rw [has_or, Bool.or_eq_false_iff] at hm
    have e : j ≠ i := fun e => by
      subst e
      rw [hi] at hj
      cases hj
      rw [hk] at hku
      cases hku
    rw [l2] at hdj
    simp only [e, decide_false, Bool.false_or] at hdj
    unfold mixH
    rw [h1, I.h2 j u n b y hj hku hdj hm.1]
  · rw [hst, hma]
    intro j u n b y hj hku hm
    obtain ⟨h1, h2⟩ := hfresh j u n b y hj hku hm
    cases hg : XT.get n t.heap with
    | none => rfl
    | some o =>
      exfalso
      rcases g.nam n o hg with ⟨o', h3⟩ | h3
      · rw [h1] at h3; cases h3
      · omega
  · intro j u n b y hj hku hdj
    rw [l2] at hdj
    simp only [Bool.or_eq_false_iff] at hdj
    obtain ⟨e1, _⟩ := hp.fresh j u n b y hj hku
    have hjl := (List.getElem?_eq_some_iff.1 hj).1
    rw [g.old n (by omega)]
    exact I.h4 j u n b y hj hku hdj.2
  · rw [hst]
    intro b o hb hlow
    rcases mix_cases hb with ⟨h1, h2⟩ | ⟨h1, _⟩
    · have h3 := I.h7 b o h2 hlow
      rw [← c.low b hlow, h1] at h3
      cases h3
    · exact h1
  · intro d u hdu hch
    rw [l2]
    by_cases e : d = i
    · subst e; simp
    · simp only [e, decide_false, Bool.false_or]
      rw [I.chq d u hdu hch]
      constructor
      · intro h1
        have : q ≤ i := by
          by_cases e2 : q ≤ i
          · exact e2
          · have := (I.chq i sl hi hc).2 (by omega)
            rw [hd] at this
            cases this
        omega
      · intro h1
        have h2 := hp.ch d i u sl hdu hi hch hc (by omega)
        exact (I.chq d u hdu hch).1 (hmask d h2)
  · intro j hj
    rw [hma, has_or] at hj
    rw [l2]
    cases hm : has (mAt L q) j with
    | true => rw [I.mq j hm]; simp
    | false =>
      rw [hm, Bool.false_or] at hj
      rw [hmask j hj]
      simp
end
theorem ready_iff {md : Region.Mode} {ops : Array Oper} {listed : Array Bool} {i : Nat} (hsz : listed.size = ops.size) : i ∈ Region.ready md ops listed ↔ ∃ o, ops[i]? = some o ∧ dn listed i = false ∧ ∀ e ∈ o.after.toList, Region.binds md e = true → dn listed e.on = true := by
  unfold Region.ready
  simp only [List.mem_filter, List.mem_range, Bool.and_eq_true, Bool.not_eq_true']
  constructor
  · rintro ⟨h1, h2, h3⟩
    refine ⟨ops[i], Array.getElem?_eq_getElem h1, ?_, ?_⟩
    · unfold dn
      rw [Array.getD_eq_getD_getElem?] at h2 ⊢
      rw [Array.getElem?_eq_getElem (by omega)] at h2 ⊢
      exact h2
    · rw [Array.getElem?_eq_getElem h1] at h3
      simp only [Option.map_some, Option.getD_some] at h3
      intro e he hb
      rw [Array.all_eq_true'] at h3
      have := h3 e (by simpa using he)
      rw [hb] at this
      simpa [dn] using this
  · rintro ⟨o, h1, h2, h3⟩
    have hlt := (Array.getElem?_eq_some_iff.1 h1).1
    refine ⟨hlt, ?_, ?_⟩
    · unfold dn at h2
      rw [Array.getD_eq_getD_getElem?] at h2 ⊢
      rw [Array.getElem?_eq_getElem (by omega)] at h2 ⊢
      exact h2
    · rw [h1]
      simp only [Option.map_some, Option.getD_some]
      rw [Array.all_eq_true']
      intro e he
      cases hb : Region.binds md e with
      | false => rfl
      | true => have := h3 e (by simpa using he) hb; simpa [dn] using this
/-- nothing is ready: all is done -/
theorem ready_nil {md : Region.Mode} {ops : Array Oper} {listed : Array Bool} (hsz : listed.size = ops.size) (hed : ∀ (i : Nat) (o : Oper), ops[i]? = some o → ∀ e ∈ o.after.toList, Region.binds md e = true → e.on < i) (h : Region.ready md ops listed = []) : ∀ i, i < ops.size → dn listed i = true := by
  intro i
  induction i using Nat.strongRecOn with
  | _ i ih =>
    intro hi
    cases hd : dn listed i with
    | true => rfl
    | false =>
      have : i ∈ Region.ready md ops listed := (ready_iff hsz).2 ⟨ops[i], Array.getElem?_eq_getElem hi, hd, fun e he hb => ih e.on (hed i _ (Array.getElem?_eq_getElem hi) e he hb) (by have := hed i _ (Array.getElem?_eq_getElem hi) e he hb; omega)⟩
      rw [h] at this
      cases this
section
variable {ops : Array Oper} {L : List Slot} {f0 : XF} {s0 S0 : XS} {α0 : XM} {w0 : World} {ds : List Deferred} {Q : Exit → Act → World → Prop}
theorem inv_any (H0 : HR α0 s0 w0) (hn : f0.n ≤ 1000000) (hp : PlanOK P ops.toList L f0 s0 S0)
    (hq : ∀ (listed : Array Bool) (a : Act) (w : World) (α : XM) (h : XH) (q : Nat), (∀ i, i < L.length → dn listed i = true) → InvR L f0 s0 S0 α0 w0 ds listed a w α h q → Q .normal a w) :
    ∀ (fuel : Nat) (listed : Array Bool) (a : Act) (w : World), (∃ α h q, InvR L f0 s0 S0 α0 w0 ds listed a w α h q) → ((List.range L.length).filter fun i => !dn listed i).length ≤ fuel → wpAny P .any ops Q fuel listed a w := by
  have hlen : ops.size = L.length := by
    have := congrArg List.length hp.os
    simp at this
    exact this.symm
  have hget : ∀ (i : Nat) (o : Oper), ops[i]? = some o → ∃ sl : Slot, L[i]? = some sl ∧ sl.o = o := fun i o ho => by
    have h1 : (L.map (·.o))[i]? = some o := by rw [hp.os]; simpa using ho
    rw [List.getElem?_map] at h1
    cases hL : L[i]? with
    | none => rw [hL] at h1; cases h1
    | some sl => rw [hL] at h1; exact ⟨sl, rfl, Option.some.inj h1⟩
  have hed : ∀ (i : Nat) (o : Oper), ops[i]? = some o → ∀ e ∈ o.after.toList, Region.binds .any e = true → e.on < i := fun i o ho e he hb => by
    obtain ⟨sl, h1, rfl⟩ := hget i o ho
    exact hp.edge i sl h1 e he hb
  intro fuel
  induction fuel with
  | zero =>
    rintro listed a w ⟨α, h, q, I⟩ hf
    have hall : ∀ i, i < L.length → dn listed i = true := fun i hi => by
      cases hd : dn listed i with
      | true => rfl
      | false =>
        have : i ∈ (List.range L.length).filter fun i => !dn listed i := by simp [hi, hd]
        have := List.length_pos_of_mem this
        omega
    refine ⟨?_, hq listed a w α h q hall I⟩
    cases hr : Region.ready .any ops listed with
    | nil => rfl
    | cons i r =>
      have : i ∈ Region.ready .any ops listed := by rw [hr]; exact List.mem_cons_self
      obtain ⟨o, h1, h2, _⟩ := (ready_iff (by rw [I.size, hlen])).1 this
      have hi := (Array.getElem?_eq_some_iff.1 h1).1
      rw [hall i (by omega)] at h2
      cases h2
  | succ fuel ih =>
    rintro listed a w ⟨α, h, q, I⟩ hf
    refine ⟨fun hr => hq listed a w α h q (fun i hi => ready_nil (by rw [I.size, hlen]) hed hr i (by omega)) I, fun i hi => ?_⟩
    obtain ⟨o, h1, hd, h3⟩ := (ready_iff (by rw [I.size, hlen])).1 hi
    obtain ⟨sl, hsl, rfl⟩ := hget i o h1
    have hil := (List.getElem?_eq_some_iff.1 hsl).1
    have hmask : ∀ m, has sl.mask m = true → dn listed m = true := fun m hm => by
      obtain ⟨e, he, hb, hor⟩ := hp.msk i sl hsl m hm
      rcases hor with rfl | ⟨u, hu, hum⟩
      · exact h3 e he hb
      · exact I.closed e.on u (h3 e he hb) hu m hum
    have F := I.frame hp hn hsl hd hmask
    have hcnt : ((List.range L.length).filter fun j => !dn (listed.setIfInBounds i true) j).length ≤ fuel := by
      have hlt : i < listed.size := by rw [I.size]; exact hil
      have hsub : ((List.range L.length).filter fun j => !dn (listed.setIfInBounds i true) j) = ((List.range L.length).filter fun j => !dn listed j).filter fun j => !decide (j = i) := by
        rw [List.filter_filter]
        congr 1
        funext j
        rw [dn_set hlt]
        simp [Bool.and_comm]
      rw [hsub]
      have hmem : i ∈ (List.range L.length).filter fun j => !dn listed j := by simp [hil, hd]
      have hlt2 : (((List.range L.length).filter fun j => !dn listed j).filter fun j => !decide (j = i)).length < ((List.range L.length).filter fun j => !dn listed j).length := by
        refine List.length_filter_lt_length_iff_exists.2 ⟨i, hmem, by simp⟩
      omega
    have hw := want_ok F (hp.want i sl hsl)
    unfold wpOp
    simp only [h1]
    cases hk : sl.k with
    | skip =>
      rw [hk] at hw
      simp only at hw
      rw [if_neg (by rw [hw]; simp)]
      refine ih _ _ _ ⟨α, h, q, I.still hp hsl hd hmask (by unfold Slot.isCh; rw [hk]) (fun n b x e => by rw [hk] at e; cases e) I.hf I.gf (XM.le_refl α) (fun _ _ => rfl) (fun x hx => by unfold Slot.val at hx; rw [hk] at hx; cases hx; exact ⟨[], .nil, rfl⟩)⟩ hcnt
    | quiet x =>
      rw [hk] at hw
      simp only at hw
      rw [if_pos hw]
      obtain ⟨s, hc, hx⟩ := hp.quiet i sl x hsl hk q I.qq fun c u hcu hch => ⟨fun hm => (I.chq c u hcu hch).1 (hmask c hm), fun hlt => by
        cases hm : has u.mask i with
        | false => rfl
        | true =>
          have := I.closed c u ((I.chq c u hcu hch).2 hlt) hcu i hm
          rw [hd] at this
          cases this⟩
      obtain ⟨hs, hr⟩ := I.cov H0 hmask hc
      obtain ⟨β, nx, v, w', e1, e2, e3, e4, e5, e6⟩ := opX_ok (P := P) hr F hx
      have hf := I.hf.step hs hc.next hc.k hr.base e4 e5 (by rw [hc.k])
      have gf := I.gf.step I.hf hs hc.next hc.k I.ks.1 e4 e5
      rw [mix_same hs] at hf gf
      rw [hc.next] at hf gf
      rw [hc.k] at hf gf
      have key := ih _ _ _ ⟨β, h, q, I.still hp hsl hd hmask (by unfold Slot.isCh; rw [hk]) (fun n b x e => by rw [hk] at e; cases e) hf gf e5.le (fun b hb => e5.old b (by rw [hc.next]; exact hb)) (v := v) (fun y hy => by unfold Slot.val at hy; rw [hk] at hy; cases hy; exact e3)⟩ hcnt
      refine .inl ?_
      unfold Oper.wp
      rw [e1]
      rcases e2 with rfl | ⟨rfl, rfl⟩
      · exact key
      · exact key
    | fresh n b x =>
      rw [hk] at hw
      simp only at hw
      rw [if_pos hw]
      obtain ⟨hnn, mk, hop, rfl⟩ := hp.fresh i sl n b x hsl hk
      obtain ⟨v, obj, room, e1, e2, e3⟩ := newOp_ok (P := P) (α := α) (w := w) F hop
      refine .inl ?_
      unfold Oper.wp
      rw [e1]
      exact ih _ _ _ ⟨_, _, q, I.new H0 hp hsl hd hmask hk e2 e3⟩ hcnt
    | chain x t =>
      rw [hk] at hw
      simp only at hw
      rw [if_pos hw]
      obtain ⟨s, hc, hstep⟩ := hp.chain i sl x t hsl hk
      have hch : sl.isCh = true := by unfold Slot.isCh; rw [hk]
      obtain ⟨q1, q2⟩ := I.chainQ hp hsl hd hmask hch
      rw [← q1, ← q2] at hc
      obtain ⟨hs, hr⟩ := I.cov H0 hmask hc
      refine .inl (hstep α a w hr F _ _ fun β v w' e1 e2 e3 e4 => ?_)
      exact ih _ _ _ ⟨β, _, _, I.chain H0 hp hsl hd hmask hk hc e1 e2 e3 e4⟩ hcnt
/-- a region that draws -/
theorem wp_plan (hm : P.follows .mixedOrders = true) (hp : PlanOK P ops.toList L f0 s0 S0) {id : Nat} {a : Act} {sN : XS} (H0 : HR α0 s0 w0) (F : FR1 α0 f0 a) (hc : Cover L s0.next (fun _ => true) (mAt L L.length) (stAt L S0 L.length) sN)
    (hq : ∀ β a' w, HR β sN w → GR α0 s0 w0 β sN w → KS s0.k sN.k → FR1 β (frAt L f0 L.length) a' → a'.defers = a.defers → Q .normal a' w) : (Code.region id ops true).wp P Q a w0 := by
  have hlen : ops.size = L.length := by
    have := congrArg List.length hp.os
    simp at this
    exact this.symm
  refine wp_region_any hm ?_
  refine inv_any (α0 := α0) (w0 := w0) (ds := a.defers) H0 F.small hp (fun listed a' w α h q hall I => ?_) _ _ _ _ ⟨α0, fun b => XT.get b s0.heap, 0, ?_⟩ ?_
  · have hfold := fold_nochain (L := L) (S := S0) (i := q) (j := L.length) (by
      rcases I.qq with rfl | ⟨c, u, h1, _, rfl⟩
      · exact Nat.zero_le _
      · exact (List.getElem?_eq_some_iff.1 h1).1) (fun c u hcu hch hb => by
        have := (I.chq c u hcu hch).1 (hall c hb.2)
        omega)
    rw [← hfold.1, ← hfold.2] at hc
    have hlow : ∀ i, (fun _ => true : Nat → Bool) i = true → i < L.length → dn listed i = true := fun i _ hi => hall i hi
    have hs : ∀ b o, XT.get b sN.heap = some o → h b = some o := fun b o hb => by
      rcases hc.snd b o hb with h1 | ⟨i, sl, x, h1, h2, h3, h4⟩
      · exact I.h1 b o h1
      · exact I.h2 i sl b o x h1 h2 (hall i (List.getElem?_eq_some_iff.1 h1).1) h4
    have hr : HR α sN w := I.hf.sub hs hc.next hc.k (cover_base hc I.base (by rw [I.ks.1]; exact H0.low) (fun p q hp => H0.live_lt (H0.base.2 p q (by rw [← I.ks.2.1]; exact hp))))
    have hfn : (frAt L f0 L.length).n = f0.n := foldS_n _ _
    refine hq α a' w hr (I.gf.to hs (fun b o hb hlo hh => by rw [hc.low b hlo]; exact I.h7 b o hh hlo) (fun b o hb => H0.live_lt hb) hc.next hc.k I.ks.1) (by rw [hc.k]; exact I.ks) ⟨by rw [hfn]; exact I.tsz, by rw [hfn]; exact F.small, fun t v ht hv => ?_⟩ I.df
    rw [hfn] at ht
    rw [frAt_val F.small ht hp.dst] at hv
    refine I.fr t v ht ?_
    rw [← hv]
    refine valD_agree L 0 _ fun j u hu _ => ?_
    have hj := (List.getElem?_eq_some_iff.1 hu).1
    rw [Nat.zero_add, hall j hj]
    simp [hj]
  · have hst : stAt L S0 0 = S0 := rfl
    have hma : mAt L 0 = 0 := rfl
    have hdn : ∀ i, dn (Array.replicate ops.size false) i = false := fun i => by
      unfold dn
      rw [Array.getD_eq_getD_getElem?]
      by_cases e : i < ops.size
      · simp [e]
      · simp [e]
    have hw : HR α0 s0 w0.drew := H0.drew
    have hfr := HF.of H0.drew
    refine ⟨by simp [hlen], fun i sl hi => (by rw [hdn] at hi; cases hi), ?_, ?_, ?_, ?_, ?_, ?_, ?_, ?_, ?_, ?_, .inl rfl, ?_, ?_, F.size, ?_, rfl⟩
    · rw [hst]
      exact ⟨hfr.sym, by rw [hp.k, hp.next]; have := H0.low; omega, hfr.live, hfr.inj, fun b hb => hfr.fresh b (by rw [hp.next] at hb; omega), by rw [hp.k]; exact hfr.tp⟩
    · rw [hst]
      have g := GR.drew α0 s0 w0
      rw [hp.k]
      exact ⟨g.le, g.os, g.tape, g.output, g.size, g.keep, g.src, by rw [hp.next]; omega, g.froz, g.old, g.nam, g.sc, g.sk, g.hid⟩
    · rw [hst, hp.k]; exact KS.refl _
    · rw [hst]
      refine ⟨fun b o hb => ?_, fun p q hpq => ?_⟩
      · rw [hp.k] at hb ⊢
        rw [hp.heap]
        exact H0.base.1 b o hb
      · rw [hp.k] at hpq
        rw [hp.heap]
        exact H0.base.2 p q hpq
    · rw [hst]; exact Nat.le_refl _
    · rw [hst, hp.heap]
      intro b o hb
      exact hb
    · intro i sl n b x _ _ hdi
      rw [hdn] at hdi
      cases hdi
    · intro i sl n b x hi hk _
      rw [hst, hp.heap]
      obtain ⟨e1, _⟩ := hp.fresh i sl n b x hi hk
      cases hg : XT.get n s0.heap with
      | none => rfl
      | some o =>
        obtain ⟨l, h1, _⟩ := H0.live n o hg
        rw [H0.fresh n (by omega)] at h1
        cases h1
    · intro i sl n b x hi hk _
      obtain ⟨e1, _⟩ := hp.fresh i sl n b x hi hk
      exact H0.fresh n (by omega)
    · rw [hst, hp.heap]
      intro b o hb _
      exact hb
    · intro c u _ _
      rw [hdn]
      simp
    · intro i hi
      rw [hma, has_zero] at hi
      cases hi
    · intro t v ht hv
      rw [valD_none L 0 _ (fun j u _ _ => hdn _)] at hv
      exact F.val t v ht hv
  · refine Nat.le_trans (List.length_filter_le _ _) ?_
    simp [hlen]
end
end
end Go.Proofs.YtbddollbjajcnaaGreat
