/- The evaluator: an operation depends on what it looks at. -/
import Derived.Test.YtbddollbjajcnaaGreatX24
namespace Go.Proofs.YtbddollbjajcnaaGreat
open Go
noncomputable section
set_option linter.unusedVariables false
set_option linter.unusedSimpArgs false
variable {P : Program}
/-- two frames that agree on some temporaries -/
def Agree (f g : XF) (l : List Tmp) : Prop := f.n = g.n ∧ ∀ t : Nat, t ∈ l → t < f.n → XT.get (XP.key t) f.tm = XT.get (XP.key t) g.tm
theorem rsT_in {f : XF} (hn : f.n ≤ 1000000) {t : Nat} (ht : t < f.n) : ∀ (l : List Tmp) (m : XT XV), (t ∈ l ∨ XT.get (XP.key t) m = XT.get (XP.key t) f.tm) → XT.get (XP.key t) (rsT f l m) = XT.get (XP.key t) f.tm
  | [], m, h => by
    rcases h with h | h
    · cases h
    · exact h
  | u :: l, m, h => by
    unfold rsT
    refine rsT_in hn ht l _ ?_
    by_cases e : t = u
    · subst e
      refine .inr ?_
      have : Nat.blt t f.n = true := Nat.ble_eq_true_of_le ht
      rw [this]
      exact XT.get_put _ _ _
    · rcases h with h | h
      · rcases List.mem_cons.1 h with h | h
        · exact absurd h e
        · exact .inl h
      · refine .inr ?_
        cases hb : Nat.blt u f.n with
        | false => exact h
        | true =>
          simp only [cond_true]
          have hu : u < f.n := blt_lt hb
          have hu1 : (u : Nat) < 1000000 := Nat.lt_of_lt_of_le hu hn
          rw [XT.get_put_ne _ _ _ _ (fun q => e (XP.key_inj (t := u) (u := t) hu1 (by omega) q).symm)]
          exact h
theorem rs_agree {f : XF} (hn : f.n ≤ 1000000) (l : List Tmp) : Agree f (rs f l) l := ⟨rfl, fun t h ht => (rsT_in hn ht l _ (.inl h)).symm⟩
theorem ev_congr {f g : XF} {l : List Tmp} (h : Agree f g l) {y : Operand} (hl : ∀ t ∈ opnd y, t ∈ l) : evX f y = evX g y := by
  cases y with
  | tmp t =>
    simp only [evX]
    rw [← h.1]
    cases hb : Nat.blt t f.n with
    | false => rfl
    | true => exact h.2 t (hl t (List.mem_singleton.2 rfl)) (blt_lt hb)
  | const v => rfl
  | global g => rfl
  | func g => rfl
theorem mem_app {t : Tmp} {a b : List Tmp} : t ∈ List.append a b ↔ t ∈ a ∨ t ∈ b := List.mem_append
theorem parts_congr {f g : XF} {l : List Tmp} (h : Agree f g l) : ∀ {ps : List (Nat × Operand)}, (∀ t ∈ opndP ps, t ∈ l) → partsX f ps = partsX g ps
  | [], _ => rfl
  | (i, o) :: r, hl => by
    unfold partsX
    rw [ev_congr h (fun t ht => hl t (mem_app.2 (.inl ht))), parts_congr h (fun t ht => hl t (mem_app.2 (.inr ht)))]
theorem ptrs_congr {f g : XF} {l : List Tmp} (h : Agree f g l) : ∀ {ps : List Operand}, (∀ t ∈ opnds ps, t ∈ l) → ptrsX f ps = ptrsX g ps
  | [], _ => rfl
  | o :: r, hl => by
    unfold ptrsX
    rw [ev_congr h (fun t ht => hl t (mem_app.2 (.inl ht))), ptrs_congr h (fun t ht => hl t (mem_app.2 (.inr ht)))]
theorem bnd_congr {f g : XF} {l : List Tmp} (h : Agree f g l) {o : Option Operand} (hl : ∀ t ∈ opndO o, t ∈ l) : bndX f o = bndX g o := by
  cases o with
  | none => rfl
  | some o => simp only [bndX]; rw [ev_congr h (y := o) hl]
theorem newOp_congr {f g : XF} {l : List Tmp} (h : Agree f g l) {o : Oper} (hl : ∀ t ∈ looksX o.op, t ∈ l) : newOp P f o = newOp P g o := by
  unfold newOp
  cases ho : o.op <;> rw [ho] at hl <;> try rfl
  · simp only [ev_congr h hl]
  · simp only [parts_congr h hl]
  · simp only [ev_congr h (fun t ht => hl t (mem_app.2 (.inl ht))), ev_congr h (fun t ht => hl t (mem_app.2 (.inr ht)))]
theorem callB_congr {f g : XF} {l : List Tmp} (h : Agree f g l) {b : Builtin} {args : List Operand} {tys : List TypeId} (hl : ∀ t ∈ opnds args, t ∈ l) (s : XS) : callB P s f b args tys = callB P s g b args tys := by
  unfold callB
  have e1 : ∀ y, args = [y] → evX f y = evX g y := fun y hy => ev_congr h fun t ht => hl t (by rw [hy]; exact mem_app.2 (.inl ht))
  have e2 : ∀ y z, args = [y, z] → evX f y = evX g y ∧ evX f z = evX g z := fun y z hy => ⟨ev_congr h fun t ht => hl t (by rw [hy]; exact mem_app.2 (.inl ht)), ev_congr h fun t ht => hl t (by rw [hy]; exact mem_app.2 (.inr (mem_app.2 (.inl ht))))⟩
  cases b <;> try rfl
  all_goals
    rcases args with _ | ⟨y, _ | ⟨z, _ | ⟨u, r⟩⟩⟩
    all_goals first | rfl | (simp only [e1 _ rfl]) | (simp only [(e2 _ _ rfl).1, (e2 _ _ rfl).2])
theorem opX_congr {f g : XF} {l : List Tmp} (h : Agree f g l) {o : Oper} (hl : ∀ t ∈ looksX o.op, t ∈ l) (s : XS) : opX P f s o = opX P g s o := by
  have hm : madeX P f s o = madeX P g s o := by unfold madeX; rw [newOp_congr h hl]
  rw [opX_eq, opX_eq]
  unfold opXS
  have two : ∀ {a b : List Tmp}, (∀ t ∈ List.append a b, t ∈ l) → (∀ t ∈ a, t ∈ l) ∧ (∀ t ∈ b, t ∈ l) := fun k => ⟨fun t ht => k t (mem_app.2 (.inl ht)), fun t ht => k t (mem_app.2 (.inr ht))⟩
  cases ho : o.op <;> rw [ho] at hl <;> first | rfl | exact hm | skip
  all_goals simp only [xMove, xPick, xBuild, xLoad, xStore, xNil, xBin, xUn, xConv, xFn, xSlice, xFA, xField, xIA, xIx, xLk, xUpd, xEnt, xEntSt, xRange, xEntry, xExtr, xCall]
  · simp only [ev_congr h hl]
  · simp only [ev_congr h hl]
  · rename_i c y z
    have h1 := two hl
    have h2 := two h1.2
    have e : ∀ b : Bool, evX f (bif b then y else z) = evX g (bif b then y else z) := fun b => by cases b; exact ev_congr h h2.2; exact ev_congr h h2.1
    simp only [ev_congr h h1.1, e]
  · simp only [parts_congr h hl]
  · have h1 := two hl
    have h2 := two h1.2
    simp only [ev_congr h h1.1, ev_congr h h2.1, ev_congr h h2.2]
  · simp only [ev_congr h hl]
  · have h1 := two hl
    simp only [ev_congr h h1.1, ev_congr h h1.2]
  · simp only [ev_congr h hl]
  · have h1 := two hl
    simp only [ev_congr h h1.1, ev_congr h h1.2]
  · simp only [ev_congr h hl]
  · simp only [ev_congr h hl]
  · have h1 := two hl
    simp only [ptrs_congr h h1.1, ptrs_congr h h1.2]
  · have h1 := two hl
    have h2 := two h1.2
    simp only [ev_congr h h1.1, bnd_congr h h2.1, bnd_congr h h2.2]
  · simp only [ev_congr h hl]
  · simp only [ev_congr h hl]
  · have h1 := two hl
    simp only [ev_congr h h1.1, ev_congr h h1.2]
  · have h1 := two hl
    simp only [ev_congr h h1.1, ev_congr h h1.2]
  · have h1 := two hl
    simp only [ev_congr h h1.1, ev_congr h h1.2]
  · have h1 := two hl
    have h2 := two h1.2
    simp only [ev_congr h h1.1, ev_congr h h2.1, ev_congr h h2.2]
  · have h1 := two hl
    simp only [ev_congr h h1.1, ev_congr h h1.2]
  · have h1 := two hl
    have h2 := two h1.2
    simp only [ev_congr h h1.1, ev_congr h h2.1, ev_congr h h2.2]
  · simp only [ev_congr h hl]
  · simp only [ev_congr h hl]
  · simp only [ev_congr h hl]
  · rename_i c
    obtain ⟨callee, args, tys⟩ := c
    cases callee with
    | builtin b => exact callB_congr h hl s
    | value y => rfl
    | invoke y m => rfl
theorem want_congr {ops : List Oper} {f g : XF} {l : List Tmp} (h : Agree f g l) {o : Oper} (hl : ∀ t ∈ gTmp ops o, t ∈ l) : wantX ops f o = wantX ops g o := by
  unfold wantX
  unfold gTmp at hl
  cases hg : o.guard with
  | none => rfl
  | some p =>
    obtain ⟨j, w⟩ := p
    simp only [hg] at hl ⊢
    cases hj : nthX j ops with
    | none => rfl
    | some u =>
      simp only [hj] at hl ⊢
      cases hd : u.dst with
      | none => rfl
      | some d =>
        simp only [hd] at hl ⊢
        rw [← h.1]
        cases hb : Nat.blt d f.n with
        | false => rfl
        | true => simp only [cond_true]; rw [h.2 d (hl d (List.mem_singleton.2 rfl)) (blt_lt hb)]
/-- operations that make new objects: 0; that look alone: 1; others: 2 -/
def clsX : Op → Nat
  | .alloc _ | .box _ _ | .buildSlice _ _ _ | .makeMap _ _ | .makeSlice _ _ _ => 0
  | .move _ | .assign _ | .pick _ _ _ | .build _ _ | .load _ _ | .nilCheck _ | .binOp _ _ _ _ _ | .unOp _ _ _ | .convert _ _ _ | .makeFunc _ _ _ | .slice _ _ _ _ _ | .fieldAddr _ _ _ | .field _ _ _ | .indexAddr _ _ _ | .index _ _ _ | .lookup _ _ _ _ | .entry _ | .extract _ _ => 1
  | .call c => match c.callee with
    | .builtin b => match b with
      | .len | .max | .min => 1
      | _ => 2
    | _ => 2
  | _ => 2
theorem quiet_same {f : XF} {s t : XS} {o : Oper} {x : XV} (hc : clsX o.op = 1) (hx : opX P f s o = some (x, t)) : t = s := by
  rw [opX_eq] at hx
  unfold opXS at hx
  cases ho : o.op <;> rw [ho] at hc hx <;> simp only [clsX] at hc <;> first | (exact absurd hc (by decide)) | skip
  all_goals simp only [xMove, xPick, xBuild, xLoad, xStore, xNil, xBin, xUn, xConv, xFn, xSlice, xFA, xField, xIA, xIx, xLk, xUpd, xEnt, xEntSt, xRange, xEntry, xExtr, xCall] at hx
  case call c =>
    obtain ⟨callee, args, tys⟩ := c
    cases callee with
    | builtin b =>
      simp only at hc hx
      unfold callB at hx
      cases b <;> simp only at hc hx <;> first | (exact absurd hc (by decide)) | skip
      all_goals
        split at hx
        · first
          | (split at hx
             · obtain ⟨_, _, hx⟩ := ob_some hx
               obtain ⟨_, _, hx⟩ := ob_some hx
               cases hx; rfl
             · cases hx)
          | (obtain ⟨_, _, hx⟩ := ob_some hx
             obtain ⟨_, _, hx⟩ := ob_some hx
             split at hx
             · split at hx
               · obtain ⟨_, _, hx⟩ := ob_some hx
                 cases hx; rfl
               · cases hx
             · cases hx)
        · cases hx
    | value y => simp at hc
    | invoke y m => simp at hc
  all_goals
    first
    | (obtain ⟨_, _, hx⟩ := ob_some hx; cases hx; rfl)
    | (obtain ⟨_, _, hx⟩ := ob_some hx; obtain ⟨_, _, hx⟩ := ob_some hx; cases hx; rfl)
    | (obtain ⟨_, _, hx⟩ := ob_some hx; obtain ⟨_, _, hx⟩ := ob_some hx; obtain ⟨_, _, hx⟩ := ob_some hx; cases hx; rfl)
    | (obtain ⟨_, _, hx⟩ := ob_some hx; obtain ⟨_, _, hx⟩ := ob_some hx; obtain ⟨_, _, hx⟩ := ob_some hx; obtain ⟨_, _, hx⟩ := ob_some hx; cases hx; rfl)
    | (obtain ⟨_, _, hx⟩ := ob_some hx; split at hx <;> first | (obtain ⟨_, _, hx⟩ := ob_some hx; cases hx; rfl) | (obtain ⟨_, _, hx⟩ := ob_some hx; obtain ⟨_, _, hx⟩ := ob_some hx; cases hx; rfl) | cases hx)
    | (split at hx <;> first | (obtain ⟨_, _, hx⟩ := ob_some hx; obtain ⟨_, _, hx⟩ := ob_some hx; cases hx; rfl) | (obtain ⟨_, _, hx⟩ := ob_some hx; obtain ⟨_, _, hx⟩ := ob_some hx; obtain ⟨_, _, hx⟩ := ob_some hx; obtain ⟨_, _, hx⟩ := ob_some hx; cases hx; rfl) | cases hx)
end
end Go.Proofs.YtbddollbjajcnaaGreat
