/- The evaluator: how heaps grow and are written. -/
import Derived.Test.YtbddollbjajcnaaGreatX1
import Derived.Deep.AppendSrc
import Derived.Deep.MidRow
import Derived.Laws.CopyRow
namespace Go.Proofs.YtbddollbjajcnaaGreat
open Go
noncomputable section
set_option linter.unusedVariables false
def XM.put (α : XM) (b : XP) (l : XL) : XM := fun p => bif p.beq b then some l else α p
theorem XM.put_self (α : XM) (b : XP) (l : XL) : α.put b l b = some l := by
  unfold XM.put
  rw [XP.beq_eq.2 rfl]
  rfl
theorem XM.put_ne (α : XM) {b p : XP} (l : XL) (h : p ≠ b) : α.put b l p = α p := by
  unfold XM.put
  cases hb : p.beq b with
  | true => exact absurd (XP.beq_eq.1 hb) h
  | false => rfl
theorem XM.le_put {α : XM} {b : XP} (l : XL) (h : α b = none) : α.le (α.put b l) := fun p k e => by
  rw [XM.put_ne α l (fun hp => by subst hp; rw [h] at e; cases e)]
  exact e
/-- from one state to another: what was known stays known; blocks that no object has stand as they were; an object's block is new or was an object's -/
structure GR (α : XM) (s : XS) (w : World) (β : XM) (t : XS) (v : World) : Prop where
  le : α.le β
  os : v.os = w.os
  tape : v.tape = w.tape
  output : v.output = w.output
  size : w.heap.size ≤ v.heap.size
  keep : ∀ B, B < w.heap.size → (∀ b o l, XT.get b s.heap = some o → α b = some l → l.blk ≠ B) → v.heap[B]? = w.heap[B]?
  src : ∀ b o l, XT.get b t.heap = some o → β b = some l → w.heap.size ≤ l.blk ∨ ∃ b' o' l', XT.get b' s.heap = some o' ∧ α b' = some l' ∧ l'.blk = l.blk
  next : s.next.nat ≤ t.next.nat
  kk : t.k.lo = s.k.lo
  froz : ∀ b o l, XT.get b s.heap = some o → b.nat < s.k.lo → α b = some l → l.blk < w.heap.size → XT.get b t.heap = some o ∧ v.heap[l.blk]? = w.heap[l.blk]?
  old : ∀ b, b.nat < s.next.nat → β b = α b
  nam : ∀ b o, XT.get b t.heap = some o → (∃ o', XT.get b s.heap = some o') ∨ s.next.nat ≤ b.nat
  sc : t.k.script.length ≤ s.k.script.length
  sk : t.k.script.length = s.k.script.length → t.k = s.k
  hid : t.k = s.k → ∀ b l, XT.get b s.heap = some .hid → α b = some l → l.blk < w.heap.size → XT.get b t.heap = some .hid ∧ v.heap[l.blk]? = w.heap[l.blk]?
theorem GR.refl (α : XM) (s : XS) (w : World) : GR α s w α s w :=
  ⟨XM.le_refl α, rfl, rfl, rfl, Nat.le_refl _, fun _ _ _ => rfl, fun b o l h k => .inr ⟨b, o, l, h, k, rfl⟩, Nat.le_refl _, rfl, fun b o l h _ _ _ => ⟨h, rfl⟩, fun _ _ => rfl, fun b o h => .inl ⟨o, h⟩, Nat.le_refl _, fun _ => rfl, fun _ b l h _ _ => ⟨h, rfl⟩⟩
theorem GR.trans {α β γ : XM} {s t u : XS} {w v z : World} (h : GR α s w β t v) (k : GR β t v γ u z) : GR α s w γ u z := by
  refine ⟨XM.le_trans h.le k.le, k.os.trans h.os, k.tape.trans h.tape, k.output.trans h.output, Nat.le_trans h.size k.size, fun B hB hn => ?_, fun b o l hb hl => ?_, Nat.le_trans h.next k.next, k.kk.trans h.kk, fun b o l hb hlo hl hlt => ?_, fun b hb => (k.old b (Nat.lt_of_lt_of_le hb h.next)).trans (h.old b hb), fun b o hb => (k.nam b o hb).elim (fun ⟨o', h1⟩ => h.nam b o' h1) (fun h1 => .inr (Nat.le_trans h.next h1)), Nat.le_trans k.sc h.sc, fun e => ?_, fun e b l h1 h2 h3 => ?_⟩
  · refine (k.keep B (Nat.lt_of_lt_of_le hB h.size) fun b o l hb hl e => ?_).trans (h.keep B hB hn)
    rcases h.src b o l hb hl with h1 | ⟨b', o', l', h1, h2, h3⟩
    · omega
    · exact hn b' o' l' h1 h2 (h3.trans e)
  · rcases k.src b o l hb hl with h1 | ⟨b', o', l', h1, h2, h3⟩
    · exact .inl (Nat.le_trans h.size h1)
    · rcases h.src b' o' l' h1 h2 with h4 | ⟨b2, o2, l2, h4, h5, h6⟩
      · exact .inl (by omega)
      · exact .inr ⟨b2, o2, l2, h4, h5, h6.trans h3⟩
  · obtain ⟨h1, h2⟩ := h.froz b o l hb hlo hl hlt
    obtain ⟨h3, h4⟩ := k.froz b o l h1 (by rw [h.kk]; exact hlo) (h.le _ _ hl) (Nat.lt_of_lt_of_le hlt h.size)
    exact ⟨h3, h4.trans h2⟩
  · have e1 : t.k.script.length = s.k.script.length := by have := k.sc; have := h.sc; omega
    have e2 : u.k.script.length = t.k.script.length := by omega
    exact (k.sk e2).trans (h.sk e1)
  · have e0 : u.k.script.length = s.k.script.length := congrArg (fun k : XK => k.script.length) e
    have e1 : t.k.script.length = s.k.script.length := by have := k.sc; have := h.sc; omega
    have e2 : u.k.script.length = t.k.script.length := by omega
    obtain ⟨q1, q2⟩ := h.hid (h.sk e1) b l h1 h2 h3
    obtain ⟨q3, q4⟩ := k.hid (k.sk e2) b l q1 (h.le _ _ h2) (Nat.lt_of_lt_of_le h3 h.size)
    exact ⟨q3, q4.trans q2⟩
theorem HR.more {α β : XM} {s t : XS} {w v : World} (h : HR α s w) (g : GR α s w β t v) (hk : t.k = s.k) : TapeR β t v ∧ BaseR t := by
  refine ⟨fun p q hp => ?_, fun b o hb => ?_, fun p q hp => ?_⟩
  · rw [hk] at hp ⊢
    obtain ⟨l, n, vs, h1, h1', h2, h3, h4, h5, h6⟩ := h.tp p q hp
    obtain ⟨l', q1, q2⟩ := h.live p _ h2
    rw [h1] at q1
    cases q1
    obtain ⟨e0, e1⟩ := g.hid hk p l h2 h1 q2.lt
    have e2 := g.keep n.blk h3 fun b o m hb hm => h4 b o m hb hm
    refine ⟨l, n, vs, g.le _ _ h1, g.le _ _ h1', e0, Nat.lt_of_lt_of_le h3 g.size, fun b o m hb hm => ?_, forall2_mono (fun _ _ => CR.mono g.le) h5, fun z hz1 hz2 => h6 z (hz1.trans e1) (hz2.trans e2)⟩
    rcases g.src b o m hb hm with h7 | ⟨b', o', m', h7, h8, h9⟩
    · omega
    · rw [← h9]
      exact h4 b' o' m' h7 h8
  · rw [hk] at hb ⊢
    obtain ⟨h1, h2⟩ := h.base.1 b o hb
    obtain ⟨l, h3, h4⟩ := h.live b o h1
    exact ⟨(g.froz b o l h1 h2 h3 h4.lt).1, h2⟩
  · rw [hk] at hp
    have h1 := h.base.2 p q hp
    obtain ⟨l, h3, h4⟩ := h.live p _ h1
    exact (g.hid hk p l h1 h3 h4.lt).1
theorem GR.drew (α : XM) (s : XS) (w : World) : GR α s w α s w.drew :=
  ⟨XM.le_refl α, rfl, rfl, rfl, Nat.le_refl _, fun _ _ _ => rfl, fun b o l h k => .inr ⟨b, o, l, h, k, rfl⟩, Nat.le_refl _, rfl, fun b o l h _ _ _ => ⟨h, rfl⟩, fun _ _ => rfl, fun b o h => .inl ⟨o, h⟩, Nat.le_refl _, fun _ => rfl, fun _ b l h _ _ => ⟨h, rfl⟩⟩
theorem HR.drew {α : XM} {s : XS} {w : World} (h : HR α s w) : HR α s w.drew :=
  ⟨h.sym, h.low, fun b o hb => by obtain ⟨l, h1, h2⟩ := h.live b o hb; exact ⟨l, h1, OR.at (w := w) rfl h2⟩, h.inj, h.fresh, (h.more (GR.drew α s w) rfl).1, h.base⟩
structure HR5 (α : XM) (s : XS) (w : World) : Prop where
  sym : SymOK α
  low : s.k.lo ≤ s.next.nat
  live : ∀ b o, XT.get b s.heap = some o → ∃ l, α b = some l ∧ OR α w l o
  inj : ∀ b b' o o' l l', XT.get b s.heap = some o → XT.get b' s.heap = some o' → α b = some l → α b' = some l' → l.blk = l'.blk → b = b'
  fresh : ∀ b, s.next.nat ≤ b.nat → α b = none
theorem HR.mk5 {α β : XM} {s t : XS} {w v : World} (h : HR α s w) (hk : t.k = s.k) (k : HR5 β t v ∧ GR α s w β t v) : HR β t v ∧ GR α s w β t v :=
  ⟨⟨k.1.sym, k.1.low, k.1.live, k.1.inj, k.1.fresh, (h.more k.2 hk).1, (h.more k.2 hk).2⟩, k.2⟩
theorem HR.nofresh {α : XM} {s : XS} {w : World} (h : HR α s w) {b : XP} {o : XO} (hb : XT.get b s.heap = some o) : b ≠ s.next := fun e => by
  subst e
  obtain ⟨l, h1, _⟩ := h.live _ o hb
  rw [h.fresh _ (Nat.le_refl _)] at h1
  cases h1
/-- a new object in a new block -/
theorem HR.new {α : XM} {s : XS} {w : World} (h : HR α s w) (o : XO) (ob : Obj) (room : Nat) (ho : OR α (w.alloc ob) ⟨w.heap.size, room⟩ o) :
    HR (α.put s.next ⟨w.heap.size, room⟩) ⟨XT.put (some o) s.next s.heap, s.next.succ, s.k⟩ (w.alloc ob) ∧
    GR α s w (α.put s.next ⟨w.heap.size, room⟩) ⟨XT.put (some o) s.next s.heap, s.next.succ, s.k⟩ (w.alloc ob) := by
  have hf := h.fresh s.next (Nat.le_refl _)
  have hle := XM.le_put ⟨w.heap.size, room⟩ hf
  have hold : ∀ k, k < w.heap.size → (w.alloc ob).heap[k]? = w.heap[k]? := fun k hk => by
    show (w.heap.push ob)[k]? = _
    rw [Array.getElem?_push_lt hk, Array.getElem?_eq_getElem hk]
  refine h.mk5 rfl ⟨⟨h.sym.mono hle, by have := h.low; show s.k.lo ≤ s.next.succ.nat; rw [XP.nat_succ]; omega, fun b o' hb => ?_, fun b b' o1 o2 l1 l2 hb hb' hl hl' e => ?_, fun b hb => ?_⟩, ⟨hle, rfl, rfl, rfl, by show w.heap.size ≤ (w.heap.push ob).size; simp, fun B hB _ => hold B hB, fun b o' l hb hl => ?_, by rw [XP.nat_succ]; exact Nat.le_succ _, rfl, fun b o' l hb hlo hl hlt => ⟨by rw [XT.get_put_ne _ _ _ _ (Ne.symm (h.nofresh hb))]; exact hb, hold _ hlt⟩, fun b hb => XM.put_ne _ _ (fun e => by subst e; exact Nat.lt_irrefl _ hb), fun b o' hb => by
    by_cases hbn : b = s.next
    · exact .inr (by rw [hbn]; exact Nat.le_refl _)
    · rw [XT.get_put_ne _ _ _ _ (Ne.symm hbn)] at hb; exact .inl ⟨o', hb⟩, Nat.le_refl _, fun _ => rfl, fun _ b l hb hl hlt => ⟨by rw [XT.get_put_ne _ _ _ _ (Ne.symm (h.nofresh hb))]; exact hb, hold _ hlt⟩⟩⟩
  · by_cases hbn : b = s.next
    · subst hbn
      rw [XT.get_put] at hb
      cases hb
      exact ⟨_, XM.put_self _ _ _, ho.mono hle⟩
    · rw [XT.get_put_ne _ _ _ _ (Ne.symm hbn)] at hb
      obtain ⟨l, h1, h2⟩ := h.live b o' hb
      exact ⟨l, hle _ _ h1, (OR.at (hold _ h2.lt) h2).mono hle⟩
  · by_cases hbn : b = s.next
    · by_cases hbn' : b' = s.next
      · rw [hbn, hbn']
      · exfalso
        subst hbn
        rw [XM.put_self] at hl
        cases hl
        rw [XT.get_put_ne _ _ _ _ (Ne.symm hbn')] at hb'
        rw [XM.put_ne _ _ hbn'] at hl'
        obtain ⟨l, h1, h2⟩ := h.live b' o2 hb'
        rw [hl'] at h1
        cases h1
        have := h2.lt
        have e : w.heap.size = l2.blk := e
        omega
    · rw [XT.get_put_ne _ _ _ _ (Ne.symm hbn)] at hb
      rw [XM.put_ne _ _ hbn] at hl
      obtain ⟨l, h1, h2⟩ := h.live b o1 hb
      rw [hl] at h1
      cases h1
      by_cases hbn' : b' = s.next
      · exfalso
        subst hbn'
        rw [XM.put_self] at hl'
        cases hl'
        have := h2.lt
        have e : l1.blk = w.heap.size := e
        omega
      · rw [XT.get_put_ne _ _ _ _ (Ne.symm hbn')] at hb'
        rw [XM.put_ne _ _ hbn'] at hl'
        exact h.inj b b' o1 o2 l1 l2 hb hb' hl hl' e
  · rw [XP.nat_succ] at hb
    rw [XM.put_ne _ _ (fun e => by subst e; omega)]
    exact h.fresh b (by omega)
  · by_cases hbn : b = s.next
    · subst hbn
      rw [XM.put_self] at hl
      cases hl
      exact .inl (Nat.le_refl _)
    · rw [XT.get_put_ne _ _ _ _ (Ne.symm hbn)] at hb
      rw [XM.put_ne _ _ hbn] at hl
      exact .inr ⟨b, o', l, hb, hl, rfl⟩
/-- an object's block is written: the object turns, all else stands -/
theorem HR.turn {α : XM} {s : XS} {w w' : World} (h : HR α s w) {b : XP} {o o' : XO} {l : XL} (hb : XT.get b s.heap = some o) (hnh : o ≠ .hid) (hl : α b = some l) (hmay : s.may b = true) (hg : w.grownBy w' (some l.blk)) (ho : OR α w' l o') :
    HR α ⟨XT.put (some o') b s.heap, s.next, s.k⟩ w' ∧ GR α s w α ⟨XT.put (some o') b s.heap, s.next, s.k⟩ w' := by
  have hkeep : ∀ p q m, p ≠ b → XT.get p s.heap = some q → α p = some m → m.blk ≠ l.blk := fun p q m hp hq hm e => hp (h.inj p b q o m l hq hb hm hl e)
  have hget : ∀ p q, XT.get p (XT.put (some o') b s.heap) = some q → (p = b ∧ q = o') ∨ (p ≠ b ∧ XT.get p s.heap = some q) := fun p q hq => by
    by_cases hp : p = b
    · subst hp
      rw [XT.get_put] at hq
      exact .inl ⟨rfl, (Option.some.inj hq).symm⟩
    · rw [XT.get_put_ne _ _ _ _ (Ne.symm hp)] at hq
      exact .inr ⟨hp, hq⟩
  have hsome : ∀ p q, XT.get p (XT.put (some o') b s.heap) = some q → ∃ q', XT.get p s.heap = some q' := fun p q hq => by
    rcases hget p q hq with ⟨rfl, _⟩ | ⟨_, h1⟩
    · exact ⟨o, hb⟩
    · exact ⟨q, h1⟩
  refine h.mk5 rfl ⟨⟨h.sym, h.low, fun p q hq => ?_, fun p p' q q' m m' hq hq' hm hm' e => ?_, h.fresh⟩, ⟨XM.le_refl α, hg.os, hg.tape, hg.output, hg.size, fun B hB hn => hg.block B hB (fun e => hn b o l hb hl (Option.some.inj e).symm), fun p q m hq hm => ?_, Nat.le_refl _, rfl, fun p q m hq hlo hm hlt => ?_, fun _ _ => rfl, fun p q hq => .inl (hsome p q hq), Nat.le_refl _, fun _ => rfl, fun _ p m hp hm hlt => by
    have hpb : p ≠ b := fun e => by subst e; rw [hb] at hp; exact hnh (Option.some.inj hp)
    exact ⟨by rw [XT.get_put_ne _ _ _ _ (Ne.symm hpb)]; exact hp, hg.block m.blk hlt (fun e => hkeep p _ m hpb hp hm (Option.some.inj e))⟩⟩⟩
  · rcases hget p q hq with ⟨rfl, rfl⟩ | ⟨hp, h1⟩
    · exact ⟨l, hl, ho⟩
    · obtain ⟨m, h2, h3⟩ := h.live p q h1
      exact ⟨m, h2, OR.at (hg.block m.blk h3.lt (fun e => hkeep p q m hp h1 h2 (Option.some.inj e))) h3⟩
  · obtain ⟨r, hr⟩ := hsome p q hq
    obtain ⟨r', hr'⟩ := hsome p' q' hq'
    exact h.inj p p' r r' m m' hr hr' hm hm' e
  · obtain ⟨r, hr⟩ := hsome p q hq
    exact .inr ⟨p, r, m, hr, hm, rfl⟩
  · have hpb : p ≠ b := fun e => by subst e; have := XS.may_le hmay; omega
    exact ⟨by rw [XT.get_put_ne _ _ _ _ (Ne.symm hpb)]; exact hq, hg.block m.blk hlt (fun e => hkeep p q m hpb hq hm (Option.some.inj e))⟩
/-- an object under a new name, its block written; the old name is gone -/
theorem HR.rename {α : XM} {s : XS} {w w' : World} (h : HR α s w) {b : XP} {o o' : XO} {l l' : XL} (hb : XT.get b s.heap = some o) (hnh : o ≠ .hid) (hl : α b = some l) (hbl : l'.blk = l.blk) (hmay : s.may b = true) (hg : w.grownBy w' (some l.blk)) (ho : OR α w' l' o') :
    HR (α.put s.next l') ⟨XT.put (some o') s.next (XT.put none b s.heap), s.next.succ, s.k⟩ w' ∧ GR α s w (α.put s.next l') ⟨XT.put (some o') s.next (XT.put none b s.heap), s.next.succ, s.k⟩ w' := by
  have hf := h.fresh s.next (Nat.le_refl _)
  have hle := XM.le_put l' hf
  have hbn := h.nofresh hb
  have hget : ∀ p q, XT.get p (XT.put (some o') s.next (XT.put none b s.heap)) = some q → (p = s.next ∧ q = o') ∨ (p ≠ s.next ∧ p ≠ b ∧ XT.get p s.heap = some q) := fun p q hq => by
    by_cases hp : p = s.next
    · subst hp
      rw [XT.get_put] at hq
      exact .inl ⟨rfl, (Option.some.inj hq).symm⟩
    · rw [XT.get_put_ne _ _ _ _ (Ne.symm hp)] at hq
      by_cases hpb : p = b
      · subst hpb
        rw [XT.get_put] at hq
        cases hq
      · rw [XT.get_put_ne _ _ _ _ (Ne.symm hpb)] at hq
        exact .inr ⟨hp, hpb, hq⟩
  have hkeep : ∀ p q m, p ≠ b → XT.get p s.heap = some q → α p = some m → m.blk ≠ l.blk := fun p q m hp hq hm e => hp (h.inj p b q o m l hq hb hm hl e)
  refine h.mk5 rfl ⟨⟨h.sym.mono hle, by have := h.low; show s.k.lo ≤ s.next.succ.nat; rw [XP.nat_succ]; omega, fun p q hq => ?_, fun p p' q q' m m' hq hq' hm hm' e => ?_, fun p hp => ?_⟩, ⟨hle, hg.os, hg.tape, hg.output, hg.size, fun B hB hn => hg.block B hB (fun e => hn b o l hb hl (Option.some.inj e).symm), fun p q m hq hm => ?_, by rw [XP.nat_succ]; exact Nat.le_succ _, rfl, fun p q m hq hlo hm hlt => ?_, fun p hp => XM.put_ne _ _ (fun e => by subst e; exact Nat.lt_irrefl _ hp), fun p q hq => (hget p q hq).elim (fun ⟨e, _⟩ => .inr (by rw [e]; exact Nat.le_refl _)) (fun ⟨_, _, h1⟩ => .inl ⟨q, h1⟩), Nat.le_refl _, fun _ => rfl, fun _ p m hp hm hlt => by
    have hpb : p ≠ b := fun e => by subst e; rw [hb] at hp; exact hnh (Option.some.inj hp)
    exact ⟨by rw [XT.get_put_ne _ _ _ _ (Ne.symm (h.nofresh hp)), XT.get_put_ne _ _ _ _ (Ne.symm hpb)]; exact hp, hg.block m.blk hlt (fun e => hkeep p _ m hpb hp hm (Option.some.inj e))⟩⟩⟩
  · rcases hget p q hq with ⟨rfl, rfl⟩ | ⟨hp, hpb, h1⟩
    · exact ⟨l', XM.put_self _ _ _, ho.mono hle⟩
    · obtain ⟨m, h2, h3⟩ := h.live p q h1
      exact ⟨m, hle _ _ h2, (OR.at (hg.block m.blk h3.lt (fun e => hkeep p q m hpb h1 h2 (Option.some.inj e))) h3).mono hle⟩
  · rcases hget p q hq with ⟨rfl, rfl⟩ | ⟨hp, hpb, h1⟩
    · rcases hget p' q' hq' with ⟨rfl, _⟩ | ⟨hp', hpb', h1'⟩
      · rfl
      · rw [XM.put_self] at hm
        cases hm
        rw [XM.put_ne _ _ hp'] at hm'
        exact absurd (e.symm.trans hbl) (hkeep p' q' m' hpb' h1' hm')
    · rw [XM.put_ne _ _ hp] at hm
      rcases hget p' q' hq' with ⟨rfl, _⟩ | ⟨hp', hpb', h1'⟩
      · rw [XM.put_self] at hm'
        cases hm'
        exact absurd (e.trans hbl) (hkeep p q m hpb h1 hm)
      · rw [XM.put_ne _ _ hp'] at hm'
        exact h.inj p p' q q' m m' h1 h1' hm hm' e
  · rw [XP.nat_succ] at hp
    rw [XM.put_ne _ _ (fun e => by subst e; omega)]
    exact h.fresh p (by omega)
  · rcases hget p q hq with ⟨rfl, rfl⟩ | ⟨hp, hpb, h1⟩
    · rw [XM.put_self] at hm
      cases hm
      exact .inr ⟨b, o, l, hb, hl, hbl.symm⟩
    · rw [XM.put_ne _ _ hp] at hm
      exact .inr ⟨p, q, m, h1, hm, rfl⟩
  · have hpb : p ≠ b := fun e => by subst e; have := XS.may_le hmay; omega
    exact ⟨by rw [XT.get_put_ne _ _ _ _ (Ne.symm (h.nofresh hq)), XT.get_put_ne _ _ _ _ (Ne.symm hpb)]; exact hq, hg.block m.blk hlt (fun e => hkeep p q m hpb hq hm (Option.some.inj e))⟩
/-- a name is struck -/
theorem HR.strike {α : XM} {s : XS} {w : World} (h : HR α s w) (b : XP) (hmay : s.may b = true) (hnh : XT.get b s.heap ≠ some .hid) : HR α ⟨XT.put none b s.heap, s.next, s.k⟩ w ∧ GR α s w α ⟨XT.put none b s.heap, s.next, s.k⟩ w := by
  have hget : ∀ p q, XT.get p (XT.put none b s.heap) = some q → XT.get p s.heap = some q := fun p q hq => by
    by_cases hpb : p = b
    · subst hpb
      rw [XT.get_put] at hq
      cases hq
    · rwa [XT.get_put_ne _ _ _ _ (Ne.symm hpb)] at hq
  exact h.mk5 rfl ⟨⟨h.sym, h.low, fun p q hq => h.live p q (hget p q hq), fun p p' q q' m m' hq hq' => h.inj p p' q q' m m' (hget p q hq) (hget p' q' hq'), h.fresh⟩,
    ⟨XM.le_refl α, rfl, rfl, rfl, Nat.le_refl _, fun _ _ _ => rfl, fun p q m hq hm => .inr ⟨p, q, m, hget p q hq, hm, rfl⟩, Nat.le_refl _, rfl, fun p q m hq hlo hm hlt => ⟨by rw [XT.get_put_ne _ _ _ _ (fun e => by subst e; have := XS.may_le hmay; omega)]; exact hq, rfl⟩, fun _ _ => rfl, fun p q hq => .inl ⟨q, hget p q hq⟩, Nat.le_refl _, fun _ => rfl, fun _ p m hp hm hlt => ⟨by rw [XT.get_put_ne _ _ _ _ (fun e => by subst e; exact hnh hp)]; exact hp, rfl⟩⟩⟩
end
end Go.Proofs.YtbddollbjajcnaaGreat
