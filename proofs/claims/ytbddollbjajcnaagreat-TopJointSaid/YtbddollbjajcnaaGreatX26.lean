/- The evaluator: a plan of a region that draws, made in the order of the text. -/
import Derived.Test.YtbddollbjajcnaaGreatX25
namespace Go.Proofs.YtbddollbjajcnaaGreat
open Go
noncomputable section
set_option linter.unusedVariables false
set_option linter.unusedSimpArgs false
variable {P : Program}
def bindX : Ground → Bool
  | .textOnly _ => false
  | .gcOnly _ => false
  | _ => true
theorem bindX_eq (e : Edge) : bindX e.ground = Region.binds .any e := by
  unfold bindX Region.binds
  cases e.ground <;> rfl
def nthD : Nat → List Nat → Nat
  | _, [] => 0
  | 0, a :: _ => a
  | n + 1, _ :: l => nthD n l
theorem nthD_eq : ∀ (n : Nat) (l : List Nat), nthD n l = (l[n]?).getD 0
  | _, [] => by cases ‹Nat› <;> rfl
  | 0, _ :: _ => rfl
  | n + 1, _ :: l => by show nthD n l = _; rw [nthD_eq n l]; simp
/-- what an operation waits for -/
def maskX (i : Nat) (ms : List Nat) : List Edge → Nat → Option Nat
  | [], acc => some acc
  | e :: es, acc => match bindX e.ground with
    | false => maskX i ms es acc
    | true => bif Nat.blt e.on i then maskX i ms es (Nat.lor acc (Nat.lor (Nat.shiftLeft 1 e.on) (nthD e.on ms))) else none
theorem has_shift (j k : Nat) (h : has (1 <<< j) k = true) : k = j := by
  rw [has_eq, Nat.one_shiftLeft, Nat.testBit_two_pow] at h
  exact (of_decide_eq_true h).symm
theorem maskX_ok {i : Nat} {ms : List Nat} : ∀ {es : List Edge} {acc m : Nat}, maskX i ms es acc = some m → (∀ e ∈ es, Region.binds .any e = true → e.on < i) ∧ ∀ k, has m k = true → has acc k = true ∨ ∃ e ∈ es, Region.binds .any e = true ∧ (k = e.on ∨ ∃ m', ms[e.on]? = some m' ∧ has m' k = true)
  | [], acc, m, h => by
    cases h
    exact ⟨fun e he => (by cases he), fun k hk => .inl hk⟩
  | e :: es, acc, m, h => by
    unfold maskX at h
    rw [bindX_eq] at h
    cases hb : Region.binds .any e with
    | false =>
      rw [hb] at h
      simp only at h
      obtain ⟨h1, h2⟩ := maskX_ok h
      refine ⟨fun e' he hb' => ?_, fun k hk => ?_⟩
      · rcases List.mem_cons.1 he with rfl | he
        · rw [hb] at hb'; cases hb'
        · exact h1 e' he hb'
      · rcases h2 k hk with h3 | ⟨e', h3, h4⟩
        · exact .inl h3
        · exact .inr ⟨e', List.mem_cons_of_mem _ h3, h4⟩
    | true =>
      rw [hb] at h
      simp only at h
      obtain ⟨hlt, h⟩ := bif_some h
      obtain ⟨h1, h2⟩ := maskX_ok h
      refine ⟨fun e' he hb' => ?_, fun k hk => ?_⟩
      · rcases List.mem_cons.1 he with rfl | he
        · exact blt_lt hlt
        · exact h1 e' he hb'
      · rcases h2 k hk with h3 | ⟨e', h3, h4⟩
        · have e1 : Nat.lor acc (Nat.lor (Nat.shiftLeft 1 e.on) (nthD e.on ms)) = acc ||| (1 <<< e.on ||| nthD e.on ms) := rfl
          rw [e1, has_or, has_or, Bool.or_eq_true, Bool.or_eq_true] at h3
          rcases h3 with h3 | h3 | h3
          · exact .inl h3
          · exact .inr ⟨e, List.mem_cons_self, hb, .inl (has_shift _ _ h3)⟩
          · rw [nthD_eq] at h3
            cases hm : ms[e.on]? with
            | none => rw [hm] at h3; simp [has_zero] at h3
            | some m' => rw [hm] at h3; exact .inr ⟨e, List.mem_cons_self, hb, .inr ⟨m', hm, h3⟩⟩
        · exact .inr ⟨e', List.mem_cons_of_mem _ h3, h4⟩
def masksL : List Oper → Nat → List Nat → Option (List Nat)
  | [], _, ms => some ms
  | o :: r, i, ms => ob (maskX i ms o.after.toList 0) fun m => masksL r (Nat.succ i) (List.append ms [m])
theorem masksL_ok : ∀ {l : List Oper} {i : Nat} {ms rs : List Nat}, ms.length = i → masksL l i ms = some rs → ∃ tl, rs = ms ++ tl ∧ tl.length = l.length ∧ ∀ (j : Nat) (o : Oper), l[j]? = some o → ∃ m, rs[i + j]? = some m ∧ (∀ e ∈ o.after.toList, Region.binds .any e = true → e.on < i + j) ∧ ∀ k, has m k = true → ∃ e ∈ o.after.toList, Region.binds .any e = true ∧ (k = e.on ∨ ∃ m', rs[e.on]? = some m' ∧ has m' k = true)
  | [], i, ms, rs, hl, h => by
    cases h
    exact ⟨[], by simp, rfl, fun j o ho => by simp at ho⟩
  | o :: r, i, ms, rs, hl, h => by
    obtain ⟨m, h1, h2⟩ := ob_some h
    have h2 : masksL r (i + 1) (ms ++ [m]) = some rs := h2
    obtain ⟨tl, h3, h4, h5⟩ := masksL_ok (by simp [hl]) h2
    refine ⟨m :: tl, by rw [h3]; simp, by simp [h4], fun j u hu => ?_⟩
    cases j with
    | zero =>
      simp at hu
      subst hu
      obtain ⟨h6, h7⟩ := maskX_ok h1
      refine ⟨m, by rw [h3]; simp [hl], fun e he hb => by have := h6 e he hb; omega, fun k hk => ?_⟩
      rcases h7 k hk with h8 | ⟨e, h8, h9, h10⟩
      · rw [has_zero] at h8; cases h8
      · refine ⟨e, h8, h9, ?_⟩
        rcases h10 with h10 | ⟨m', h10, h11⟩
        · exact .inl h10
        · refine .inr ⟨m', ?_, h11⟩
          have := h6 e h8 h9
          rw [h3, List.append_assoc, List.getElem?_append_left (by omega)]
          exact h10
    | succ j =>
      obtain ⟨m', h6, h7, h8⟩ := h5 j u (by simpa using hu)
      exact ⟨m', by rw [show i + (j + 1) = i + 1 + j by omega]; exact h6, fun e he hb => by have := h7 e he hb; omega, h8⟩
/-- new objects: the operation's place, the name, the object -/
abbrev News := List (Nat × XP × XO)
def absorb (m : Nat → Bool) (M : Nat) : News → XT XO → XT XO
  | [], h => h
  | x :: r, h => match m x.1 with
    | true => match has M x.1 with
      | true => absorb m M r h
      | false => absorb m M r (XT.put (some x.2.2) x.2.1 h)
    | false => absorb m M r h
theorem absorb_snd {m : Nat → Bool} {M : Nat} {p : XP} {o : XO} : ∀ {nw : News} {h : XT XO}, XT.get p (absorb m M nw h) = some o → XT.get p h = some o ∨ ∃ i, (i, p, o) ∈ nw ∧ m i = true ∧ has M i = false
  | [], h, e => .inl e
  | (i, n, b) :: r, h, e => by
    unfold absorb at e
    have tail : ∀ g, XT.get p (absorb m M r g) = some o → XT.get p g = some o ∨ ∃ j, (j, p, o) ∈ (i, n, b) :: r ∧ m j = true ∧ has M j = false := fun g hg => by
      rcases absorb_snd hg with h1 | ⟨j, h1, h2⟩
      · exact .inl h1
      · exact .inr ⟨j, List.mem_cons_of_mem _ h1, h2⟩
    cases hm : m i with
    | false => rw [hm] at e; exact tail _ e
    | true =>
      rw [hm] at e
      cases hM : has M i with
      | true => simp only [hM] at e; exact tail _ e
      | false =>
        simp only [hM] at e
        rcases tail _ e with h1 | h1
        · by_cases hp : p = n
          · subst hp
            rw [XT.get_put] at h1
            cases h1
            exact .inr ⟨i, List.mem_cons_self, hm, hM⟩
          · rw [XT.get_put_ne _ _ _ _ (Ne.symm hp)] at h1
            exact .inl h1
        · exact .inr h1
theorem absorb_low {m : Nat → Bool} {M : Nat} {p : XP} {base : Nat} (hp : p.nat < base) : ∀ {nw : News} {h : XT XO}, (∀ i n b, (i, n, b) ∈ nw → base ≤ n.nat) → XT.get p (absorb m M nw h) = XT.get p h
  | [], h, _ => rfl
  | (i, n, b) :: r, h, hn => by
    unfold absorb
    have ih : ∀ g, XT.get p (absorb m M r g) = XT.get p g := fun g => absorb_low hp fun j n' b' hj => hn j n' b' (List.mem_cons_of_mem _ hj)
    cases hm : m i with
    | false => exact ih _
    | true =>
      cases hM : has M i with
      | true => simp only [hM]; exact ih _
      | false =>
        simp only [hM]
        rw [ih, XT.get_put_ne _ _ _ _ (fun e => by subst e; have := hn i n b List.mem_cons_self; omega)]
def covX (nw : News) (m : Nat → Bool) (M : Nat) (S : XS) : XS := ⟨absorb m M nw S.heap, S.next, S.k⟩
def NewsOK (L : List Slot) (base : XP) (nw : News) : Prop := ∀ i n b, (i, n, b) ∈ nw → ∃ sl x, L[i]? = some sl ∧ sl.k = .fresh n b x ∧ n.nat = base.nat + i
theorem NewsOK.cov {L : List Slot} {base : XP} {nw : News} (h : NewsOK L base nw) (m : Nat → Bool) (M : Nat) (S : XS) : Cover L base m M S (covX nw m M S) :=
  ⟨rfl, rfl, fun b o hb => (absorb_snd hb).imp id fun ⟨i, h1, h2, h3⟩ => by
    obtain ⟨sl, x, h4, h5, _⟩ := h i b o h1
    exact ⟨i, sl, x, h4, h5, h2, h3⟩, fun b hb => absorb_low hb fun i n x hi => by
    obtain ⟨_, _, _, _, h6⟩ := h i n x hi
    omega⟩
theorem NewsOK.mono {pre tl : List Slot} {base : XP} {nw : News} (h : NewsOK pre base nw) : NewsOK (pre ++ tl) base nw := fun i n b hi => by
  obtain ⟨sl, x, h1, h2, h3⟩ := h i n b hi
  refine ⟨sl, x, ?_, h2, h3⟩
  rw [List.getElem?_append_left (List.getElem?_eq_some_iff.1 h1).1]
  exact h1
def dropX (f : XF) (d : Option Tmp) : Option XF := f.put d (.tup [])
structure PlanR where
  sl : List Slot
  f : XF
  S : XS
  M : Nat
  nw : News
def consR (s : Slot) (x : Option PlanR) : Option PlanR := ob x fun R => some ⟨s :: R.sl, R.f, R.S, R.M, R.nw⟩
def planX (P : Program) (one : XF → XS → Oper → Option (XV × XS)) (ops : List Oper) : List (Oper × Nat) → Nat → XF → XS → Nat → XP → News → Option PlanR
  | [], _, f, S, M, _, nw => some ⟨[], f, S, M, nw⟩
  | (o, m) :: r, i, f, S, M, nm, nw => ob (wantX ops f o) fun w => match w with
    | false => ob (dropX f o.dst) fun g => consR ⟨o, m, .skip, f⟩ (planX P one ops r (Nat.succ i) g S M nm.succ nw)
    | true => match clsX o.op with
      | 0 => ob (newOp P f o) fun p => ob (f.put o.dst (mkV p.2 nm)) fun g => consR ⟨o, m, .fresh nm p.1 (mkV p.2 nm), f⟩ (planX P one ops r (Nat.succ i) g S M nm.succ ((i, nm, p.1) :: nw))
      | 1 => ob (opX P f (covX nw (has m) M S) o) fun p => ob (f.put o.dst p.1) fun g => consR ⟨o, m, .quiet p.1, f⟩ (planX P one ops r (Nat.succ i) g S M nm.succ nw)
      | _ => ob (one f (covX nw (has m) M S) o) fun p => ob (f.put o.dst p.1) fun g => consR ⟨o, m, .chain p.1 p.2, f⟩ (planX P one ops r (Nat.succ i) g p.2 (Nat.lor M m) nm.succ nw)
/-- what is known of an operation behind planX -/
structure SlotG (P : Program) (one : XF → XS → Oper → Option (XV × XS)) (ops : List Oper) (L : List Slot) (f0 : XF) (base : XP) (S0 : XS) (j : Nat) (sl : Slot) : Prop where
  f : sl.f = frAt L f0 j
  dst : ∀ d, sl.o.dst = some d → d < f0.n
  want : wantX ops (frAt L f0 j) sl.o = some (match sl.k with | .skip => false | _ => true)
  quiet : ∀ x, sl.k = .quiet x → clsX sl.o.op = 1 ∧ ∃ s, Cover L base (has sl.mask) (mAt L j) (stAt L S0 j) s ∧ opX P (frAt L f0 j) s sl.o = some (x, s)
  fresh : ∀ n b x, sl.k = .fresh n b x → n.nat = base.nat + j ∧ ∃ mk, newOp P (frAt L f0 j) sl.o = some (b, mk) ∧ x = mkV mk n
  chain : ∀ x t, sl.k = .chain x t → clsX sl.o.op ≠ 0 ∧ clsX sl.o.op ≠ 1 ∧ ∃ s, Cover L base (has sl.mask) (mAt L j) (stAt L S0 j) s ∧ one (frAt L f0 j) s sl.o = some (x, t)
theorem put_spec {f g : XF} {d : Option Tmp} {x : XV} (h : f.put d x = some g) : (∀ e, d = some e → e < f.n) ∧ ∀ s : Slot, s.o.dst = d → s.val = some x → putS f s = g := by
  rw [XF.put_eq] at h
  unfold XF.putS at h
  cases d with
  | none =>
    cases h
    exact ⟨fun e he => (by cases he), fun s h1 h2 => by unfold putS; rw [h1]⟩
  | some d =>
    simp only at h
    obtain ⟨h1, h⟩ := bif_some h
    cases h
    exact ⟨fun e he => (by cases he; exact blt_lt h1), fun s h1 h2 => by unfold putS; rw [h1, h2]⟩
section
variable {one : XF → XS → Oper → Option (XV × XS)} {ops : List Oper} {f0 : XF} {base : XP} {S0 : XS}
def PlanSays (P : Program) (one : XF → XS → Oper → Option (XV × XS)) (ops : List Oper) (f0 : XF) (base : XP) (S0 : XS) (l : List (Oper × Nat)) (pre : List Slot) (R : PlanR) : Prop :=
  R.sl.map (fun s => (s.o, s.mask)) = l ∧ R.f = (pre ++ R.sl).foldl putS f0 ∧ R.S = (pre ++ R.sl).foldl stS S0 ∧ R.M = (pre ++ R.sl).foldl mS 0 ∧ NewsOK (pre ++ R.sl) base R.nw ∧ ∀ j sl, R.sl[j]? = some sl → SlotG P one ops (pre ++ R.sl) f0 base S0 (pre.length + j) sl
theorem PlanSays.cons {l : List (Oper × Nat)} {pre : List Slot} {s : Slot} {R : PlanR} (h : PlanSays P one ops f0 base S0 l (pre ++ [s]) R) (hs : SlotG P one ops (pre ++ (s :: R.sl)) f0 base S0 pre.length s) : PlanSays P one ops f0 base S0 ((s.o, s.mask) :: l) pre ⟨s :: R.sl, R.f, R.S, R.M, R.nw⟩ := by
  have e : pre ++ [s] ++ R.sl = pre ++ s :: R.sl := by simp
  unfold PlanSays at h
  rw [e] at h
  obtain ⟨h1, h2, h3, h4, h5, h6⟩ := h
  refine ⟨by simp [h1], h2, h3, h4, h5, fun j sl hj => ?_⟩
  cases j with
  | zero => simp at hj; subst hj; exact hs
  | succ j =>
    have := h6 j sl (by simpa using hj)
    rw [List.length_append] at this
    rwa [show pre.length + (j + 1) = pre.length + [s].length + j by simp; omega]
theorem at_pre (pre tl : List Slot) (f : XF) (S : XS) : frAt (pre ++ tl) f pre.length = pre.foldl putS f ∧ stAt (pre ++ tl) S pre.length = pre.foldl stS S ∧ mAt (pre ++ tl) pre.length = pre.foldl mS 0 := by
  unfold frAt stAt mAt
  rw [List.take_left]
  exact ⟨rfl, rfl, rfl⟩
theorem planX_ok : ∀ (l : List (Oper × Nat)) (pre : List Slot) (nm : XP) (nw : News) (R : PlanR), planX P one ops l pre.length (pre.foldl putS f0) (pre.foldl stS S0) (pre.foldl mS 0) nm nw = some R → nm.nat = base.nat + pre.length → NewsOK pre base nw → PlanSays P one ops f0 base S0 l pre R
  | [], pre, nm, nw, R, h, _, hnw => by
    cases h
    exact ⟨rfl, by simp, by simp, by simp, by simpa using hnw, fun j sl hj => by simp at hj⟩
  | (o, m) :: r, pre, nm, nw, R, h, hnm, hnw => by
    unfold planX at h
    obtain ⟨w, hw, h⟩ := ob_some h
    have fin : ∀ (s : Slot) (g : XF) (S : XS) (M : Nat) (nw' : News), s.o = o → s.mask = m → putS (pre.foldl putS f0) s = g → stS (pre.foldl stS S0) s = S → mS (pre.foldl mS 0) s = M → NewsOK (pre ++ [s]) base nw' →
        consR s (planX P one ops r (Nat.succ pre.length) g S M nm.succ nw') = some R → (∀ tl, SlotG P one ops (pre ++ (s :: tl)) f0 base S0 pre.length s) → PlanSays P one ops f0 base S0 ((o, m) :: r) pre R := fun s g S M nw' ho hm hg hS hM hn hc hs => by
      obtain ⟨R', h1, h2⟩ := ob_some hc
      cases h2
      have e1 : (pre ++ [s]).length = Nat.succ pre.length := by simp
      have e2 : (pre ++ [s]).foldl putS f0 = g := by rw [List.foldl_append]; exact hg
      have e3 : (pre ++ [s]).foldl stS S0 = S := by rw [List.foldl_append]; exact hS
      have e4 : (pre ++ [s]).foldl mS 0 = M := by rw [List.foldl_append]; exact hM
      have := planX_ok r (pre ++ [s]) nm.succ nw' R' (by rw [e1, e2, e3, e4]; exact h1) (by rw [XP.nat_succ, hnm]; simp; omega) hn
      rw [← ho, ← hm]
      exact this.cons (hs R'.sl)
    cases w with
    | false =>
      simp only at h
      obtain ⟨g, hg, h⟩ := ob_some h
      obtain ⟨d1, d2⟩ := put_spec hg
      refine fin ⟨o, m, .skip, pre.foldl putS f0⟩ g _ _ nw rfl rfl (d2 _ rfl rfl) rfl rfl hnw.mono h fun tl => ?_
      · obtain ⟨p1, p2, p3⟩ := at_pre pre (⟨o, m, .skip, pre.foldl putS f0⟩ :: tl) f0 S0
        exact ⟨p1.symm, fun d hd => by have := d1 d hd; rwa [foldS_n] at this, by rw [p1]; exact hw, fun x hx => (by cases hx), fun n b x hx => (by cases hx), fun x t hx => (by cases hx)⟩
    | true =>
      simp only at h
      split at h
      · rename_i hcl
        obtain ⟨p, hp, h⟩ := ob_some h
        obtain ⟨g, hg, h⟩ := ob_some h
        obtain ⟨d1, d2⟩ := put_spec hg
        refine fin ⟨o, m, .fresh nm p.1 (mkV p.2 nm), pre.foldl putS f0⟩ g _ _ ((pre.length, nm, p.1) :: nw) rfl rfl (d2 _ rfl rfl) rfl rfl ?_ h fun tl => ?_
        · intro i n b hi
          rcases List.mem_cons.1 hi with e | hi
          · cases e
            exact ⟨⟨o, m, .fresh nm p.1 (mkV p.2 nm), pre.foldl putS f0⟩, mkV p.2 nm, by simp, rfl, hnm⟩
          · exact hnw.mono i n b hi
        · obtain ⟨p1, p2, p3⟩ := at_pre pre (⟨o, m, .fresh nm p.1 (mkV p.2 nm), pre.foldl putS f0⟩ :: tl) f0 S0
          exact ⟨p1.symm, fun d hd => by have := d1 d hd; rwa [foldS_n] at this, by rw [p1]; exact hw, fun x hx => (by cases hx), fun n b x hx => (by cases hx; exact ⟨hnm, p.2, by rw [p1]; exact hp, rfl⟩), fun x t hx => (by cases hx)⟩
      · rename_i hcl
        obtain ⟨p, hp, h⟩ := ob_some h
        obtain ⟨g, hg, h⟩ := ob_some h
        obtain ⟨d1, d2⟩ := put_spec hg
        have hsame := quiet_same hcl hp
        refine fin ⟨o, m, .quiet p.1, pre.foldl putS f0⟩ g _ _ nw rfl rfl (d2 _ rfl rfl) rfl rfl hnw.mono h fun tl => ?_
        · obtain ⟨p1, p2, p3⟩ := at_pre pre (⟨o, m, .quiet p.1, pre.foldl putS f0⟩ :: tl) f0 S0
          refine ⟨p1.symm, fun d hd => by have := d1 d hd; rwa [foldS_n] at this, by rw [p1]; exact hw, fun x hx => ?_, fun n b x hx => (by cases hx), fun x t hx => (by cases hx)⟩
          cases hx
          refine ⟨hcl, _, (hnw.mono).cov (has m) _ _, ?_⟩
          rw [p1, p2, p3]
          obtain ⟨p, t⟩ := p
          simp only at hsame
          subst hsame
          exact hp
      · rename_i hc0 hc1
        obtain ⟨p, hp, h⟩ := ob_some h
        obtain ⟨g, hg, h⟩ := ob_some h
        obtain ⟨d1, d2⟩ := put_spec hg
        refine fin ⟨o, m, .chain p.1 p.2, pre.foldl putS f0⟩ g _ _ nw rfl rfl (d2 _ rfl rfl) rfl rfl hnw.mono h fun tl => ?_
        · obtain ⟨p1, p2, p3⟩ := at_pre pre (⟨o, m, .chain p.1 p.2, pre.foldl putS f0⟩ :: tl) f0 S0
          refine ⟨p1.symm, fun d hd => by have := d1 d hd; rwa [foldS_n] at this, by rw [p1]; exact hw, fun x hx => (by cases hx), fun n b x hx => (by cases hx), fun x t hx => ?_⟩
          cases hx
          refine ⟨hc0, hc1, _, (hnw.mono).cov (has m) _ _, ?_⟩
          rw [p1, p2, p3]
          exact hp
end
end
end Go.Proofs.YtbddollbjajcnaaGreat
