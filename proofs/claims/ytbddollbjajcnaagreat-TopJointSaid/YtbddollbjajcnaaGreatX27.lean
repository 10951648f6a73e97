/- The evaluator: regions that draw. -/
import Derived.Test.YtbddollbjajcnaaGreatX26
namespace Go.Proofs.YtbddollbjajcnaaGreat
open Go
noncomputable section
set_option linter.unusedVariables false
set_option linter.unusedSimpArgs false
variable {P : Program}
def sameB : Bool → Bool → Bool
  | true, true => true
  | false, false => true
  | _, _ => false
theorem sameB_ok {a b : Bool} (h : sameB a b = true) : a = b := by cases a <;> cases b <;> first | rfl | cases h
def sameA : Option XA → Option XA → Bool
  | none, none => true
  | some p, some q => bif p.1.beq q.1 then Nat.beq p.2 q.2 else false
  | _, _ => false
theorem sameA_ok {a b : Option XA} (h : sameA a b = true) : a = b := by
  cases a with
  | none => cases b <;> first | rfl | cases h
  | some p =>
    cases b with
    | none => cases h
    | some q =>
      obtain ⟨p1, p2⟩ := p
      obtain ⟨q1, q2⟩ := q
      unfold sameA at h
      simp only at h
      cases hb : p1.beq q1 with
      | false => rw [hb] at h; cases h
      | true =>
        rw [hb] at h
        rw [XP.beq_eq.1 hb, Nat.eq_of_beq_eq_true h]
def sameCap : XCap → XCap → Bool
  | .is m, .is n => Nat.beq m n
  | .opn m, .opn n => Nat.beq m n
  | _, _ => false
theorem sameCap_ok {a b : XCap} (h : sameCap a b = true) : a = b := by
  cases a <;> cases b <;> first | (cases h; done) | (rw [Nat.eq_of_beq_eq_true h])
def sameP : Option XP → Option XP → Bool
  | none, none => true
  | some p, some q => p.beq q
  | _, _ => false
theorem sameP_ok {a b : Option XP} (h : sameP a b = true) : a = b := by
  cases a <;> cases b <;> first | rfl | (cases h; done) | (rw [XP.beq_eq.1 h])
def sameL {A : Type} (g : A → A → Bool) : List A → List A → Bool
  | [], [] => true
  | a :: l, b :: m => bif g a b then sameL g l m else false
  | _, _ => false
theorem sameL_ok {A : Type} {g : A → A → Bool} (hg : ∀ a b, g a b = true → a = b) : ∀ {l m : List A}, sameL g l m = true → l = m
  | [], [], _ => rfl
  | [], _ :: _, h => by cases h
  | _ :: _, [], h => by cases h
  | a :: l, b :: m, h => by
    unfold sameL at h
    cases hb : g a b with
    | false => rw [hb] at h; cases h
    | true => rw [hb] at h; rw [hg a b hb, sameL_ok hg h]
def sameC : XC → XC → Bool
  | .bool a, .bool b => sameB a b
  | .int k m, .int j n => bif kindEq k j then intEq m n else false
  | .str s, .str t => bytesEq s.data.toList t.data.toList
  | .ptr a, .ptr b => sameA a b
  | .slice a m c, .slice b n d => bif sameA a b then (bif Nat.beq m n then sameCap c d else false) else false
  | .map a, .map b => sameP a b
  | .fn f a b, .fn g c d => bif Nat.beq f g then (bif sameL sameA a c then sameL sameA b d else false) else false
  | .nilFn, .nilFn => true
  | .nilI, .nilI => true
  | .per k i d, .per j l e => bif kindEq k j then (bif i.beq l then sameB d e else false) else false
  | _, _ => false
theorem bif_false {c x : Bool} (h : (bif c then x else false) = true) : c = true ∧ x = true := by
  cases c with
  | false => cases h
  | true => exact ⟨rfl, h⟩
theorem sameC_ok {a b : XC} (h : sameC a b = true) : a = b := by
  unfold sameC at h
  split at h
  · rw [sameB_ok h]
  · obtain ⟨h1, h2⟩ := bif_false h
    rw [kindEq_ok h1, intEq_ok.1 h2]
  · rename_i s t
    have := bytesEq_ok.1 h
    obtain ⟨⟨s⟩⟩ := s
    obtain ⟨⟨t⟩⟩ := t
    simp at this
    rw [this]
  · rw [sameA_ok h]
  · obtain ⟨h1, h2⟩ := bif_false h
    obtain ⟨h2, h3⟩ := bif_false h2
    rw [sameA_ok h1, Nat.eq_of_beq_eq_true h2, sameCap_ok h3]
  · rw [sameP_ok h]
  · obtain ⟨h1, h2⟩ := bif_false h
    obtain ⟨h2, h3⟩ := bif_false h2
    rw [Nat.eq_of_beq_eq_true h1, sameL_ok (fun _ _ => sameA_ok) h2, sameL_ok (fun _ _ => sameA_ok) h3]
  · rfl
  · rfl
  · obtain ⟨h1, h2⟩ := bif_false h
    obtain ⟨h2, h3⟩ := bif_false h2
    rw [kindEq_ok h1, XP.beq_eq.1 h2, sameB_ok h3]
  · cases h
def sameW (x y : Bool × List XC) : Bool := bif sameB x.1 y.1 then sameL sameC x.2 y.2 else false
theorem sameW_ok {x y : Bool × List XC} (h : sameW x y = true) : x = y := by
  obtain ⟨h1, h2⟩ := bif_false h
  exact Prod.ext (sameB_ok h1) (sameL_ok (fun _ _ => sameC_ok) h2)
def sameV : XV → XV → Bool
  | .one c, .one d => sameC c d
  | .agg l, .agg m => sameL sameC l m
  | .tup l, .tup m => sameL sameW l m
  | _, _ => false
theorem sameV_ok {x y : XV} (h : sameV x y = true) : x = y := by
  unfold sameV at h
  split at h
  · rw [sameC_ok h]
  · rw [sameL_ok (fun _ _ => sameC_ok) h]
  · rw [sameL_ok (fun _ _ => sameW_ok) h]
  · cases h
/-- operations that look at their operands alone -/
def pureB : Op → Bool
  | .load _ _ => false
  | .lookup _ _ _ _ => false
  | .entry _ => false
  | .call _ => false
  | _ => true
theorem pure_any {f : XF} {s t : XS} {o : Oper} {x : XV} (hc : clsX o.op = 1) (hp : pureB o.op = true) (hx : opX P f s o = some (x, t)) (s' : XS) : opX P f s' o = some (x, s') := by
  have key : ∀ {A : Type} {q : Option A} {g : A → Option (XV × XS)} {g' : A → Option (XV × XS)}, (∀ a, g a = some (x, t) → g' a = some (x, s')) → ob q g = some (x, t) → ob q g' = some (x, s') := fun h hq => by
    obtain ⟨a, h1, h2⟩ := ob_some hq
    rw [h1]
    exact h a h2
  have last : ∀ {A : Type} {q : Option A} {g : A → XV}, ob q (fun a => some (g a, s)) = some (x, t) → ob q (fun a => some (g a, s')) = some (x, s') := fun h => by
    obtain ⟨a, h1, h2⟩ := ob_some h
    rw [h1]
    cases h2
    rfl
  rw [opX_eq] at hx ⊢
  unfold opXS at hx ⊢
  cases ho : o.op <;> rw [ho] at hc hp hx <;> simp only [clsX] at hc <;> simp only [pureB] at hp <;> first | (exact absurd hc (by decide)) | (cases hp; done) | skip
  all_goals simp only [xMove, xPick, xBuild, xLoad, xStore, xNil, xBin, xUn, xConv, xFn, xSlice, xFA, xField, xIA, xIx, xLk, xUpd, xEnt, xEntSt, xRange, xEntry, xExtr, xCall] at hx ⊢
  all_goals
    first
    | exact last hx
    | exact key (fun _ h => last h) hx
    | exact key (fun _ h => key (fun _ h => last h) h) hx
    | exact key (fun _ h => key (fun _ h => key (fun _ h => last h) h) h) hx
    | exact key (fun a h => by split at h <;> first | exact last h | exact key (fun _ h => last h) h | cases h) hx
    | (split at hx <;> first | exact key (fun _ h => last h) hx | exact key (fun _ h => key (fun _ h => key (fun _ h => last h) h) h) hx | cases hx)
def chL : List Slot → Nat → List (Nat × Nat)
  | [], _ => []
  | sl :: r, i => match sl.k with
    | .chain _ _ => (i, sl.mask) :: chL r (Nat.succ i)
    | _ => chL r (Nat.succ i)
def bndL : List Slot → Nat → Nat → List (Nat × XS × Nat)
  | [], _, _ => []
  | sl :: r, i, M => match sl.k with
    | .chain _ t => (Nat.succ i, t, Nat.lor M sl.mask) :: bndL r (Nat.succ i) (Nat.lor M sl.mask)
    | _ => bndL r (Nat.succ i) M
/-- no chain operation stands between -/
def ownB : List (Nat × Nat) → Nat → Nat → Bool
  | [], _, _ => true
  | (c, _) :: r, q, j => bif (bif Nat.ble q c then Nat.blt c j else false) then false else bif (bif Nat.ble j c then Nat.blt c q else false) then false else ownB r q j
/-- the operation j may be done where the chain operations below q are done -/
def conB : List (Nat × Nat) → Nat → Nat → Nat → Bool
  | [], _, _, _ => true
  | (c, mc) :: r, q, j, m => bif (bif has m c then Nat.ble q c else false) then false else bif (bif Nat.blt c q then has mc j else false) then false else conB r q j m
def bndsOk (P : Program) (nw : News) (chs : List (Nat × Nat)) (sl : Slot) (j : Nat) (x : XV) : List (Nat × XS × Nat) → Bool
  | [] => true
  | (q, S, M) :: r => bif ownB chs q j then bndsOk P nw chs sl j x r else match conB chs q j sl.mask with
    | false => bndsOk P nw chs sl j x r
    | true => match opX P sl.f (covX nw (has sl.mask) M S) sl.o with
      | some p => bif sameV p.1 x then bndsOk P nw chs sl j x r else false
      | none => false
def readsOk (P : Program) (nw : News) (chs : List (Nat × Nat)) (bs : List (Nat × XS × Nat)) : List Slot → Nat → Bool
  | [], _ => true
  | sl :: r, j => match sl.k with
    | .quiet x => match pureB sl.o.op with
      | true => readsOk P nw chs bs r (Nat.succ j)
      | false => bif bndsOk P nw chs sl j x bs then readsOk P nw chs bs r (Nat.succ j) else false
    | _ => readsOk P nw chs bs r (Nat.succ j)
theorem chL_ok : ∀ {L : List Slot} {i : Nat} {c : Nat} {u : Slot}, L[c]? = some u → u.isCh = true → (i + c, u.mask) ∈ chL L i
  | [], _, _, _, h, _ => by simp at h
  | sl :: r, i, c, u, h, hc => by
    unfold chL
    cases c with
    | zero =>
      simp at h
      subst h
      unfold Slot.isCh at hc
      cases hk : sl.k <;> simp [hk] at hc ⊢
    | succ c =>
      have := chL_ok (i := Nat.succ i) (L := r) (c := c) (u := u) (by simpa using h) hc
      rw [show Nat.succ i + c = i + (c + 1) by omega] at this
      cases hk : sl.k <;> simp only [hk] <;> first | exact this | exact List.mem_cons_of_mem _ this
theorem bndL_ok : ∀ {L pre : List Slot} {S0 : XS} {c : Nat} {u : Slot}, L[c]? = some u → u.isCh = true → (pre.length + c + 1, stAt (pre ++ L) S0 (pre.length + c + 1), mAt (pre ++ L) (pre.length + c + 1)) ∈ bndL L pre.length (pre.foldl mS 0)
  | [], _, _, _, _, h, _ => by simp at h
  | sl :: r, pre, S0, c, u, h, hc => by
    have e : pre ++ [sl] ++ r = pre ++ sl :: r := by simp
    have el : (pre ++ [sl]).length = Nat.succ pre.length := by simp
    unfold bndL
    cases c with
    | zero =>
      simp at h
      subst h
      have h1 := at_pre (pre ++ [sl]) r ⟨.leaf, 0⟩ S0
      rw [e, el] at h1
      unfold Slot.isCh at hc
      cases hk : sl.k <;> simp [hk] at hc
      simp only
      refine List.mem_cons.2 (.inl ?_)
      have h2 : stAt (pre ++ sl :: r) S0 (pre.length + 0 + 1) = _ := h1.2.1
      have h3 : mAt (pre ++ sl :: r) (pre.length + 0 + 1) = _ := h1.2.2
      rw [h2, h3, List.foldl_append, List.foldl_append]
      simp only [List.foldl_cons, List.foldl_nil, stS, mS, hk]
      rfl
    | succ c =>
      have := bndL_ok (pre := pre ++ [sl]) (L := r) (S0 := S0) (c := c) (u := u) (by simpa using h) hc
      rw [e, el, List.foldl_append] at this
      simp only [List.foldl_cons, List.foldl_nil] at this
      rw [show Nat.succ pre.length + c + 1 = pre.length + (c + 1) + 1 by omega] at this
      cases hk : sl.k <;> simp only [hk, mS] at this ⊢ <;> first | exact this | exact List.mem_cons_of_mem _ this
theorem ownB_ok : ∀ {chs : List (Nat × Nat)} {q j : Nat}, ownB chs q j = true → ∀ c m, (c, m) ∈ chs → ¬ (q ≤ c ∧ c < j) ∧ ¬ (j ≤ c ∧ c < q)
  | [], _, _, _, c, m, hm => by cases hm
  | (d, md) :: r, q, j, h, c, m, hm => by
    unfold ownB at h
    cases h1 : (bif Nat.ble q d then Nat.blt d j else false) with
    | true => rw [h1] at h; cases h
    | false =>
      rw [h1] at h
      simp only [cond_false] at h
      cases h2 : (bif Nat.ble j d then Nat.blt d q else false) with
      | true => rw [h2] at h; cases h
      | false =>
        rw [h2] at h
        simp only [cond_false] at h
        rcases List.mem_cons.1 hm with e | hm
        · cases e
          constructor
          · rintro ⟨a, b⟩
            rw [Nat.ble_eq_true_of_le a, show Nat.blt d j = true from Nat.ble_eq_true_of_le b] at h1
            cases h1
          · rintro ⟨a, b⟩
            rw [Nat.ble_eq_true_of_le a, show Nat.blt d q = true from Nat.ble_eq_true_of_le b] at h2
            cases h2
        · exact ownB_ok h c m hm
theorem conB_ok : ∀ {chs : List (Nat × Nat)} {q j m : Nat}, (∀ c mc, (c, mc) ∈ chs → (has m c = true → c < q) ∧ (c < q → has mc j = false)) → conB chs q j m = true
  | [], _, _, _, _ => rfl
  | (c, mc) :: r, q, j, m, h => by
    unfold conB
    obtain ⟨h1, h2⟩ := h c mc List.mem_cons_self
    have e1 : (bif has m c then Nat.ble q c else false) = false := by
      cases hm : has m c with
      | false => rfl
      | true =>
        have := h1 hm
        cases hb : Nat.ble q c with
        | false => rfl
        | true => have := Nat.le_of_ble_eq_true hb; omega
    have e2 : (bif Nat.blt c q then has mc j else false) = false := by
      cases hb : Nat.blt c q with
      | false => rfl
      | true => exact h2 (blt_lt hb)
    rw [e1, e2]
    exact conB_ok fun c' mc' hm => h c' mc' (List.mem_cons_of_mem _ hm)
theorem bndsOk_ok {nw : News} {chs : List (Nat × Nat)} {sl : Slot} {j : Nat} {x : XV} (hc : clsX sl.o.op = 1) : ∀ {bs : List (Nat × XS × Nat)}, bndsOk P nw chs sl j x bs = true → ∀ q S M, (q, S, M) ∈ bs → ownB chs q j = false → conB chs q j sl.mask = true → opX P sl.f (covX nw (has sl.mask) M S) sl.o = some (x, covX nw (has sl.mask) M S)
  | [], _, q, S, M, hm, _, _ => by cases hm
  | (q', S', M') :: r, h, q, S, M, hm, ho, hcon => by
    unfold bndsOk at h
    have tail : bndsOk P nw chs sl j x r = true → (q, S, M) ∈ r → _ := fun h hm => bndsOk_ok hc h q S M hm ho hcon
    cases h1 : ownB chs q' j with
    | true =>
      rw [h1] at h
      rcases List.mem_cons.1 hm with e | hm
      · cases e; rw [ho] at h1; cases h1
      · exact tail h hm
    | false =>
      rw [h1] at h
      simp only [cond_false] at h
      cases h2 : conB chs q' j sl.mask with
      | false =>
        rw [h2] at h
        rcases List.mem_cons.1 hm with e | hm
        · cases e; rw [hcon] at h2; cases h2
        · exact tail h hm
      | true =>
        rw [h2] at h
        simp only at h
        split at h
        · rename_i p hp
          obtain ⟨h3, h4⟩ := bif_false h
          rcases List.mem_cons.1 hm with e | hm
          · cases e
            obtain ⟨y, t⟩ := p
            have e1 := quiet_same hc hp
            have e2 := sameV_ok h3
            simp only at e2
            subst e1 e2
            exact hp
          · exact tail h4 hm
        · cases h
theorem readsOk_ok {nw : News} {chs : List (Nat × Nat)} {bs : List (Nat × XS × Nat)} : ∀ {L : List Slot} {i : Nat}, readsOk P nw chs bs L i = true → ∀ j sl x, L[j]? = some sl → sl.k = .quiet x → pureB sl.o.op = true ∨ bndsOk P nw chs sl (i + j) x bs = true
  | [], _, _, j, sl, x, h, _ => by simp at h
  | u :: r, i, h, j, sl, x, hj, hk => by
    unfold readsOk at h
    have tail : readsOk P nw chs bs r (Nat.succ i) = true → j ≠ 0 → pureB sl.o.op = true ∨ bndsOk P nw chs sl (i + j) x bs = true := fun h hne => by
      cases j with
      | zero => exact absurd rfl hne
      | succ j =>
        have := readsOk_ok h j sl x (by simpa using hj) hk
        rwa [show Nat.succ i + j = i + (j + 1) by omega] at this
    cases j with
    | zero =>
      simp at hj
      subst hj
      rw [hk] at h
      simp only at h
      cases hp : pureB u.o.op with
      | true => exact .inl rfl
      | false =>
        rw [hp] at h
        exact .inr (bif_false h).1
    | succ j =>
      refine tail ?_ (by omega)
      cases hku : u.k with
      | quiet y =>
        rw [hku] at h
        simp only at h
        cases hp : pureB u.o.op with
        | true => rw [hp] at h; exact h
        | false => rw [hp] at h; exact (bif_false h).2
      | skip => rw [hku] at h; exact h
      | fresh n b y => rw [hku] at h; exact h
      | chain y t => rw [hku] at h; exact h
end
end Go.Proofs.YtbddollbjajcnaaGreat
