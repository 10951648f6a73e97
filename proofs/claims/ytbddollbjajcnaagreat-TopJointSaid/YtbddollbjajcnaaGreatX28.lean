/- The evaluator: regions that draw (2). -/
import Derived.Test.YtbddollbjajcnaaGreatX27
namespace Go.Proofs.YtbddollbjajcnaaGreat
open Go
noncomputable section
set_option linter.unusedVariables false
set_option linter.unusedSimpArgs false
variable {P : Program}
def allB {A : Type} (p : A → Bool) : List A → Bool
  | [] => true
  | a :: l => bif p a then allB p l else false
theorem allB_ok {A : Type} {p : A → Bool} : ∀ {l : List A}, allB p l = true → ∀ a ∈ l, p a = true
  | [], _, a, h => by cases h
  | b :: l, h, a, hm => by
    obtain ⟨h1, h2⟩ := bif_false h
    rcases List.mem_cons.1 hm with rfl | hm
    · exact h1
    · exact allB_ok h2 a hm
def memT (t : Nat) : List Nat → Bool
  | [] => false
  | u :: l => bif Nat.beq u t then true else memT t l
theorem memT_of {t : Nat} : ∀ {l : List Nat}, t ∈ l → memT t l = true
  | u :: l, h => by
    unfold memT
    cases hb : Nat.beq u t with
    | true => rfl
    | false =>
      simp only [cond_false]
      rcases List.mem_cons.1 h with e | h
      · subst e
        rw [Nat.beq_refl] at hb
        cases hb
      · exact memT_of h
def dstL (o : Oper) : List Tmp :=
  match o.dst with
  | some d => [d]
  | none => []
/-- a row: the place, what is looked at or written, what is written, one of a chain?, what it waits for -/
structure RowT where
  i : Nat
  seen : List Tmp
  d : Option Tmp
  ch : Bool
  m : Nat
def chainB (o : Op) : Bool :=
  match clsX o with
  | 0 => false
  | 1 => false
  | _ => true
def rowOf (ops : List Oper) (i : Nat) (o : Oper) (m : Nat) : RowT := ⟨i, List.append (looksO ops o) (dstL o), o.dst, chainB o.op, m⟩
def rowsT (ops : List Oper) : List Oper → List Nat → Nat → List RowT
  | o :: l, m :: ms, i => rowOf ops i o m :: rowsT ops l ms (Nat.succ i)
  | _, _, _ => []
def pairT (a b : RowT) : Bool :=
  bif (match b.d with
    | none => true
    | some t => bif memT t a.seen then (bif (bif Nat.blt b.i a.i then has a.m b.i else true) then (bif Nat.blt a.i b.i then has b.m a.i else true) else false) else true)
  then (bif a.ch then (bif b.ch then (bif Nat.blt a.i b.i then has b.m a.i else true) else true) else true) else false
def statOK (ops : List Oper) : Bool :=
  match masksL ops 0 [] with
  | none => false
  | some ms => match rowsT ops ops ms 0 with
    | z => allB (fun a => allB (pairT a) z) z
theorem rowsT_ok {ops : List Oper} : ∀ {L : List Slot} {i : Nat} {j : Nat} {sl : Slot}, L[j]? = some sl → rowOf ops (i + j) sl.o sl.mask ∈ rowsT ops (L.map (·.o)) (L.map (·.mask)) i
  | [], i, j, sl, h => by simp at h
  | u :: r, i, j, sl, h => by
    simp only [List.map_cons, rowsT]
    cases j with
    | zero => simp at h; subst h; exact List.mem_cons_self
    | succ j =>
      refine List.mem_cons_of_mem _ ?_
      have := rowsT_ok (ops := ops) (i := Nat.succ i) (L := r) (j := j) (sl := sl) (by simpa using h)
      rwa [show Nat.succ i + j = i + (j + 1) by omega] at this
def zipX : List Oper → List Nat → List (Oper × Nat)
  | o :: l, m :: ms => (o, m) :: zipX l ms
  | _, _ => []
theorem zipX_maps : ∀ {l : List Oper} {ms : List Nat}, ms.length = l.length → (zipX l ms).map Prod.fst = l ∧ (zipX l ms).map Prod.snd = ms
  | [], [], _ => ⟨rfl, rfl⟩
  | [], _ :: _, h => by simp at h
  | _ :: _, [], h => by simp at h
  | o :: l, m :: ms, h => by
    obtain ⟨h1, h2⟩ := zipX_maps (l := l) (ms := ms) (by simpa using h)
    simp [zipX, h1, h2]
def addP : XP → Nat → XP
  | p, 0 => p
  | p, n + 1 => addP p.succ n
theorem addP_nat : ∀ (p : XP) (n : Nat), (addP p n).nat = p.nat + n
  | p, 0 => rfl
  | p, n + 1 => by
    show (addP p.succ n).nat = _
    rw [addP_nat p.succ n, XP.nat_succ]
    omega
def lenL {A : Type} : List A → Nat
  | [] => 0
  | _ :: l => Nat.succ (lenL l)
theorem lenL_eq {A : Type} : ∀ l : List A, lenL l = l.length
  | [] => rfl
  | _ :: l => by show Nat.succ (lenL l) = _; rw [lenL_eq l]; rfl
def drawX (P : Program) (one : XF → XS → Oper → Option (XV × XS)) (ops : List Oper) (f : XF) (s : XS) : Option (XF × XS) :=
  ob (masksL ops 0 []) fun ms => match (⟨s.heap, addP s.next (lenL ops), s.k⟩ : XS) with
    | S0 => ob (planX P one ops (zipX ops ms) 0 f S0 0 s.next []) fun R =>
      bif readsOk P R.nw (chL R.sl 0) ((0, S0, 0) :: bndL R.sl 0 0) R.sl 0 then some (R.f, covX R.nw (fun _ => true) R.M R.S) else none
theorem chainB_of {o : Op} (h0 : clsX o ≠ 0) (h1 : clsX o ≠ 1) : chainB o = true := by
  unfold chainB
  split
  · rename_i h; exact absurd h h0
  · rename_i h; exact absurd h h1
  · rfl
theorem wp_draw {one : XF → XS → Oper → Option (XV × XS)} {ops : Array Oper} {f g : XF} {s t : XS} {α : XM} {a : Act} {w : World} {rid : Nat} {Q : Exit → Act → World → Prop} (hm : P.follows .mixedOrders = true) (hst : statOK ops.toList = true)
    (hone : ∀ f s o x t, f.n ≤ 1000000 → one f s o = some (x, t) → StepOK P o (rs f (looksO ops.toList o)) s x t)
    (h : drawX P one ops.toList f s = some (g, t)) (H : HR α s w) (F : FR1 α f a)
    (hq : ∀ β a' w', HR β t w' → GR α s w β t w' → KS s.k t.k → FR1 β g a' → a'.defers = a.defers → Q .normal a' w') : (Code.region rid ops true).wp P Q a w := by
  obtain ⟨ms, hms, h⟩ := ob_some h
  simp only at h
  obtain ⟨R, hR, h⟩ := ob_some h
  obtain ⟨hreads, h⟩ := bif_some h
  cases h
  obtain ⟨tl, e1, e2, e3⟩ := masksL_ok (i := 0) (ms := []) rfl hms
  simp only [List.nil_append, Nat.zero_add] at e1 e3
  subst e1
  obtain ⟨z1, z2⟩ := zipX_maps e2
  have hps := planX_ok (P := P) (one := one) (ops := ops.toList) (f0 := f) (base := s.next) (S0 := ⟨s.heap, addP s.next (lenL ops.toList), s.k⟩) _ [] s.next [] R hR rfl (fun i n b hi => by cases hi)
  unfold PlanSays at hps
  simp only [List.nil_append, List.length_nil, Nat.zero_add] at hps
  obtain ⟨p1, p2, p3, p4, p5, p6⟩ := hps
  have hos : R.sl.map (·.o) = ops.toList := by
    have := congrArg (List.map Prod.fst) p1
    rw [List.map_map, z1] at this
    exact this
  have hmk : R.sl.map (·.mask) = ms := by
    have := congrArg (List.map Prod.snd) p1
    rw [List.map_map, z2] at this
    exact this
  have hlen : R.sl.length = ops.toList.length := by rw [← hos, List.length_map]
  have hmask : ∀ (i : Nat) (sl : Slot), R.sl[i]? = some sl → (∀ e ∈ sl.o.after.toList, Region.binds .any e = true → e.on < i) ∧ ∀ m, has sl.mask m = true → ∃ e ∈ sl.o.after.toList, Region.binds .any e = true ∧ (m = e.on ∨ ∃ u, R.sl[e.on]? = some u ∧ has u.mask m = true) := fun i sl hi => by
    have ho : ops.toList[i]? = some sl.o := by rw [← hos, List.getElem?_map, hi]; rfl
    have hmi : ms[i]? = some sl.mask := by rw [← hmk, List.getElem?_map, hi]; rfl
    obtain ⟨m, q1, q2, q3⟩ := e3 i sl.o ho
    rw [hmi] at q1
    cases q1
    refine ⟨q2, fun k hk => ?_⟩
    obtain ⟨e, q4, q5, q6⟩ := q3 k hk
    refine ⟨e, q4, q5, q6.imp id fun ⟨m', q7, q8⟩ => ?_⟩
    rw [← hmk, List.getElem?_map] at q7
    cases hu : R.sl[e.on]? with
    | none => rw [hu] at q7; cases q7
    | some u => rw [hu] at q7; cases q7; exact ⟨u, rfl, q8⟩
  have hstat : ∀ (i j : Nat) (x y : Slot), R.sl[i]? = some x → R.sl[j]? = some y → pairT (rowOf ops.toList i x.o x.mask) (rowOf ops.toList j y.o y.mask) = true := fun i j x y hi hj => by
    unfold statOK at hst
    rw [hms] at hst
    simp only at hst
    have r1 := rowsT_ok (ops := ops.toList) (i := 0) hi
    have r2 := rowsT_ok (ops := ops.toList) (i := 0) hj
    rw [hos, hmk, Nat.zero_add] at r1 r2
    exact allB_ok (allB_ok hst _ r1) _ r2
  have hblt : ∀ {m n : Nat}, m < n → Nat.blt m n = true := fun h => Nat.ble_eq_true_of_le h
  have hp : PlanOK P ops.toList R.sl f s ⟨s.heap, addP s.next (lenL ops.toList), s.k⟩ := by
    refine ⟨hos, rfl, rfl, by show (addP _ _).nat = _; rw [addP_nat, lenL_eq, hlen], fun sl hs d hd => ?_, fun i j x y t hi hj hd hor => ?_, fun i sl hi => (hmask i sl hi).1, fun i sl hi => (hmask i sl hi).2, fun i j x y hi hj hx hy hij => ?_, fun i sl hi => ?_, fun i sl x hi hk q hq hc => ?_, fun i sl n b x hi hk => ?_, fun i sl x t hi hk => ?_⟩
    · obtain ⟨i, hi⟩ := List.getElem?_of_mem hs
      exact (p6 i sl hi).dst d hd
    · have := hstat i j x y hi hj
      unfold pairT at this
      obtain ⟨h1, _⟩ := bif_false this
      have hseen : memT t (rowOf ops.toList i x.o x.mask).seen = true := memT_of (mem_app.2 (hor.imp id fun h => by unfold dstL; rw [h]; exact List.mem_singleton.2 rfl))
      have hd' : (rowOf ops.toList j y.o y.mask).d = some t := hd
      rw [hd'] at h1
      simp only [hseen, cond_true] at h1
      obtain ⟨h2, h3⟩ := bif_false h1
      constructor
      · intro hlt
        have e : Nat.blt (rowOf ops.toList j y.o y.mask).i (rowOf ops.toList i x.o x.mask).i = true := hblt hlt
        rw [e] at h2
        exact h2
      · intro hlt
        have e : Nat.blt (rowOf ops.toList i x.o x.mask).i (rowOf ops.toList j y.o y.mask).i = true := hblt hlt
        rw [e] at h3
        exact h3
    · have := hstat i j x y hi hj
      unfold pairT at this
      obtain ⟨_, h1⟩ := bif_false this
      have hch : ∀ (i : Nat) (x : Slot), R.sl[i]? = some x → x.isCh = true → (rowOf ops.toList i x.o x.mask).ch = true := fun i x hi hx => by
        unfold Slot.isCh at hx
        cases hk : x.k with
        | chain v t =>
          obtain ⟨q1, q2, _⟩ := (p6 i x hi).chain v t hk
          exact chainB_of q1 q2
        | skip => rw [hk] at hx; cases hx
        | quiet v => rw [hk] at hx; cases hx
        | fresh n b v => rw [hk] at hx; cases hx
      rw [hch i x hi hx, hch j y hj hy] at h1
      simp only [cond_true] at h1
      have e : Nat.blt (rowOf ops.toList i x.o x.mask).i (rowOf ops.toList j y.o y.mask).i = true := hblt hij
      rw [e] at h1
      exact h1
    · have hf : (frAt R.sl f i).n ≤ 1000000 := by
        have : (frAt R.sl f i).n = f.n := foldS_n _ _
        rw [this]; exact F.small
      rw [← want_congr (rs_agree hf (looksO ops.toList sl.o)) (fun t ht => mem_app.2 (.inl ht))]
      exact (p6 i sl hi).want
    · have hf : (frAt R.sl f i).n ≤ 1000000 := by
        have : (frAt R.sl f i).n = f.n := foldS_n _ _
        rw [this]; exact F.small
      obtain ⟨hcl, s1, c1, hx1⟩ := (p6 i sl hi).quiet x hk
      have goal : ∀ s2, Cover R.sl s.next (has sl.mask) (mAt R.sl q) (stAt R.sl ⟨s.heap, addP s.next (lenL ops.toList), s.k⟩ q) s2 → opX P (frAt R.sl f i) s2 sl.o = some (x, s2) → ∃ s2, Cover R.sl s.next (has sl.mask) (mAt R.sl q) (stAt R.sl ⟨s.heap, addP s.next (lenL ops.toList), s.k⟩ q) s2 ∧ opX P (rs (frAt R.sl f i) (looksO ops.toList sl.o)) s2 sl.o = some (x, s2) := fun s2 hc2 hx2 =>
        ⟨s2, hc2, by rw [← opX_congr (rs_agree hf (looksO ops.toList sl.o)) (fun t ht => mem_app.2 (.inr ht))]; exact hx2⟩
      rcases readsOk_ok hreads i sl x hi hk with hpu | hbn
      · exact goal _ (p5.cov _ _ _) (pure_any hcl hpu hx1 _)
      · rw [Nat.zero_add] at hbn
        cases ho : ownB (chL R.sl 0) q i with
        | true =>
          have hno := ownB_ok ho
          have hsame : stAt R.sl ⟨s.heap, addP s.next (lenL ops.toList), s.k⟩ q = stAt R.sl ⟨s.heap, addP s.next (lenL ops.toList), s.k⟩ i ∧ mAt R.sl q = mAt R.sl i := by
            have hmem : ∀ c u, R.sl[c]? = some u → u.isCh = true → (c, u.mask) ∈ chL R.sl 0 := fun c u h1 h2 => by
              have := chL_ok (i := 0) h1 h2
              rwa [Nat.zero_add] at this
            rcases Nat.le_total q i with hle | hle
            · exact fold_nochain hle fun c u h1 h2 hb => (hno c _ (hmem c u h1 h2)).1 hb
            · obtain ⟨k1, k2⟩ := fold_nochain (L := R.sl) (S := ⟨s.heap, addP s.next (lenL ops.toList), s.k⟩) hle fun c u h1 h2 hb => (hno c _ (hmem c u h1 h2)).2 hb
              exact ⟨k1.symm, k2.symm⟩
          rw [← hsame.1, ← hsame.2] at c1
          exact goal s1 c1 hx1
        | false =>
          have hcon : conB (chL R.sl 0) q i sl.mask = true := conB_ok fun c mc hmem => by
            have : ∃ u, R.sl[c]? = some u ∧ u.isCh = true ∧ u.mask = mc := by
              have gen : ∀ (L : List Slot) (n : Nat), (c, mc) ∈ chL L n → ∃ j u, c = n + j ∧ L[j]? = some u ∧ u.isCh = true ∧ u.mask = mc := by
                intro L
                induction L with
                | nil => intro n h; cases h
                | cons v r ih =>
                  intro n h
                  unfold chL at h
                  have tail : (c, mc) ∈ chL r (Nat.succ n) → ∃ j u, c = n + j ∧ (v :: r)[j]? = some u ∧ u.isCh = true ∧ u.mask = mc := fun h => by
                    obtain ⟨j, u, q1, q2, q3⟩ := ih _ h
                    exact ⟨j + 1, u, by omega, by simpa using q2, q3⟩
                  cases hk : v.k with
                  | chain y t =>
                    rw [hk] at h
                    simp only at h
                    rcases List.mem_cons.1 h with e | h
                    · cases e
                      exact ⟨0, v, by omega, rfl, by unfold Slot.isCh; rw [hk], rfl⟩
                    · exact tail h
                  | skip => rw [hk] at h; exact tail h
                  | quiet y => rw [hk] at h; exact tail h
                  | fresh n' b y => rw [hk] at h; exact tail h
              obtain ⟨j, u, q1, q2, q3, q4⟩ := gen R.sl 0 hmem
              rw [Nat.zero_add] at q1
              subst q1
              exact ⟨u, q2, q3, q4⟩
            obtain ⟨u, q1, q2, rfl⟩ := this
            exact hc c u q1 q2
          have hin : (q, stAt R.sl ⟨s.heap, addP s.next (lenL ops.toList), s.k⟩ q, mAt R.sl q) ∈ (0, (⟨s.heap, addP s.next (lenL ops.toList), s.k⟩ : XS), 0) :: bndL R.sl 0 0 := by
            rcases hq with rfl | ⟨c, u, h1, h2, rfl⟩
            · exact List.mem_cons_self
            · refine List.mem_cons_of_mem _ ?_
              have := bndL_ok (pre := []) (S0 := ⟨s.heap, addP s.next (lenL ops.toList), s.k⟩) h1 h2
              simpa using this
          have hx2 := bndsOk_ok hcl hbn q _ _ hin ho hcon
          rw [(p6 i sl hi).f] at hx2
          exact goal _ (p5.cov _ _ _) hx2
    · have hf : (frAt R.sl f i).n ≤ 1000000 := by
        have : (frAt R.sl f i).n = f.n := foldS_n _ _
        rw [this]; exact F.small
      obtain ⟨h1, mk, h2, h3⟩ := (p6 i sl hi).fresh n b x hk
      exact ⟨h1, mk, by rw [← newOp_congr (rs_agree hf (looksO ops.toList sl.o)) (fun t ht => mem_app.2 (.inr ht))]; exact h2, h3⟩
    · have hf : (frAt R.sl f i).n ≤ 1000000 := by
        have : (frAt R.sl f i).n = f.n := foldS_n _ _
        rw [this]; exact F.small
      obtain ⟨_, _, s1, c1, h1⟩ := (p6 i sl hi).chain x t hk
      exact ⟨s1, c1, hone _ _ _ _ _ hf h1⟩
  refine wp_plan hm hp H F (sN := covX R.nw (fun _ => true) R.M R.S) ?_ fun β a' w' h1 h2 h3 h4 h5 => hq β a' w' h1 h2 h3 ?_ h5
  · have := p5.cov (fun _ => true) (mAt R.sl R.sl.length) (stAt R.sl ⟨s.heap, addP s.next (lenL ops.toList), s.k⟩ R.sl.length)
    unfold mAt stAt at this ⊢
    rw [List.take_length] at this ⊢
    rw [p3, p4]
    exact this
  · have : frAt R.sl f R.sl.length = R.f := by
      unfold frAt
      rw [List.take_length, p2]
    rwa [this] at h4
end
end Go.Proofs.YtbddollbjajcnaaGreat
