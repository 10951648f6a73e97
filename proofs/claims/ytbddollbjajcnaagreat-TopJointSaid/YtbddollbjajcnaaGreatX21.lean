/- The evaluator: heaps as functions; a step that sees a part of the heap. -/
import Derived.Test.YtbddollbjajcnaaGreatX20
namespace Go.Proofs.YtbddollbjajcnaaGreat
open Go
noncomputable section
set_option linter.unusedVariables false
set_option linter.unusedSimpArgs false
abbrev XH := XP → Option XO
/-- as HR, of a heap that is a function -/
structure HF (α : XM) (h : XH) (next : XP) (k : XK) (w : World) : Prop where
  sym : SymOK α
  low : k.lo ≤ next.nat
  live : ∀ b o, h b = some o → ∃ l, α b = some l ∧ OR α w l o
  inj : ∀ b b' o o' l l', h b = some o → h b' = some o' → α b = some l → α b' = some l' → l.blk = l'.blk → b = b'
  fresh : ∀ b, next.nat ≤ b.nat → α b = none
  tp : ∀ p q, k.tape = some (p, q) → ∃ l m vs, α p = some l ∧ α q = some m ∧ h p = some .hid ∧ m.blk < w.heap.size ∧ (∀ b o n, h b = some o → α b = some n → n.blk ≠ m.blk) ∧
    F2 (CR α) k.script vs ∧ ∀ v : World, v.heap[l.blk]? = w.heap[l.blk]? → v.heap[m.blk]? = w.heap[m.blk]? → tapeTS v l.blk m.blk vs
theorem HF.of {α : XM} {s : XS} {w : World} (h : HR α s w) : HF α (fun b => XT.get b s.heap) s.next s.k w := ⟨h.sym, h.low, h.live, h.inj, h.fresh, h.tp⟩
/-- a part of the heap, with the base -/
theorem HF.sub {α : XM} {h : XH} {next : XP} {k : XK} {w : World} (H : HF α h next k w) {s : XS} (hs : ∀ b o, XT.get b s.heap = some o → h b = some o) (hn : s.next = next) (hk : s.k = k) (hb : BaseR s) : HR α s w := by
  subst hn hk
  exact ⟨H.sym, H.low, fun b o hb => H.live b o (hs b o hb), fun b b' o o' l l' h1 h2 => H.inj b b' o o' l l' (hs _ _ h1) (hs _ _ h2), H.fresh, fun p q hp => by
    obtain ⟨l, n, vs, h1, h1', h2, h3, h4, h5, h6⟩ := H.tp p q hp
    exact ⟨l, n, vs, h1, h1', hb.2 p q (by rw [← hp]), h3, fun b o m hb hm => h4 b o m (hs _ _ hb) hm, h5, h6⟩, hb⟩
/-- what is left of h beside s, and t -/
def mixH (s t : XS) (h : XH) : XH := fun b =>
  match XT.get b s.heap with
  | some _ => XT.get b t.heap
  | none => match h b with
    | some o => some o
    | none => XT.get b t.heap
theorem mix_cases {s t : XS} {h : XH} {b : XP} {o : XO} (hm : mixH s t h b = some o) : (XT.get b s.heap = none ∧ h b = some o) ∨ (XT.get b t.heap = some o ∧ (XT.get b s.heap = none → h b = none)) := by
  unfold mixH at hm
  cases hs : XT.get b s.heap with
  | some x => simp only [hs] at hm; exact .inr ⟨hm, fun e => by cases e⟩
  | none =>
    simp only [hs] at hm
    cases hh : h b with
    | some x => simp only [hh] at hm; cases hm; exact .inl ⟨rfl, rfl⟩
    | none => simp only [hh] at hm; exact .inr ⟨hm, fun _ => rfl⟩
/-- as GR, into a heap that is a function -/
structure GF (α : XM) (s : XS) (w : World) (β : XM) (h : XH) (next : XP) (k : XK) (v : World) : Prop where
  le : α.le β
  os : v.os = w.os
  tape : v.tape = w.tape
  output : v.output = w.output
  size : w.heap.size ≤ v.heap.size
  keep : ∀ B, B < w.heap.size → (∀ b o l, XT.get b s.heap = some o → α b = some l → l.blk ≠ B) → v.heap[B]? = w.heap[B]?
  src : ∀ b o l, h b = some o → β b = some l → w.heap.size ≤ l.blk ∨ ∃ b' o' l', XT.get b' s.heap = some o' ∧ α b' = some l' ∧ l'.blk = l.blk
  next : s.next.nat ≤ next.nat
  froz : ∀ b o l, XT.get b s.heap = some o → b.nat < s.k.lo → α b = some l → l.blk < w.heap.size → h b = some o ∧ v.heap[l.blk]? = w.heap[l.blk]?
  old : ∀ b, b.nat < s.next.nat → β b = α b
  nam : ∀ b o, h b = some o → (∃ o', XT.get b s.heap = some o') ∨ s.next.nat ≤ b.nat
  sc : k.script.length ≤ s.k.script.length
  sk : k.script.length = s.k.script.length → k = s.k
  hid : k = s.k → ∀ b l, XT.get b s.heap = some .hid → α b = some l → l.blk < w.heap.size → h b = some .hid ∧ v.heap[l.blk]? = w.heap[l.blk]?
theorem GF.to {α β : XM} {s t : XS} {w v : World} {h : XH} {next : XP} {k : XK} (g : GF α s w β h next k v) (ht : ∀ b o, XT.get b t.heap = some o → h b = some o) (hb : ∀ b o, XT.get b s.heap = some o → b.nat < s.next.nat → h b = some o → XT.get b t.heap = some o) (hlow : ∀ b o, XT.get b s.heap = some o → b.nat < s.next.nat) (hn : t.next = next) (hk : t.k = k) (hlo : k.lo = s.k.lo) : GR α s w β t v := by
  subst hk
  exact ⟨g.le, g.os, g.tape, g.output, g.size, g.keep, fun b o l h1 h2 => g.src b o l (ht _ _ h1) h2, by rw [hn]; exact g.next, hlo, fun b o l h1 h2 h3 h4 => ⟨hb b o h1 (hlow b o h1) (g.froz b o l h1 h2 h3 h4).1, (g.froz b o l h1 h2 h3 h4).2⟩, g.old, fun b o h1 => g.nam b o (ht _ _ h1), g.sc, g.sk, fun e b l h1 h2 h3 => ⟨hb b _ h1 (hlow b _ h1) (g.hid e b l h1 h2 h3).1, (g.hid e b l h1 h2 h3).2⟩⟩
/-- blocks outside of the part that a step sees stand -/
theorem HF.aside {α β : XM} {h : XH} {next : XP} {k : XK} {w v : World} {s t : XS} (H : HF α h next k w) (hs : ∀ b o, XT.get b s.heap = some o → h b = some o) (g : GR α s w β t v) {b : XP} {o : XO} {l : XL} (hb : h b = some o) (hn : XT.get b s.heap = none) (hl : α b = some l) (hlt : l.blk < w.heap.size) : v.heap[l.blk]? = w.heap[l.blk]? :=
  g.keep l.blk hlt fun b' o' l' h1 h2 e => by
    have := H.inj b b' o o' l l' hb (hs _ _ h1) hl h2 e.symm
    subst this
    rw [hn] at h1
    cases h1
theorem HF.step {α β : XM} {h : XH} {next : XP} {k : XK} {w v : World} {s t : XS} (H : HF α h next k w) (hs : ∀ b o, XT.get b s.heap = some o → h b = some o) (hn : s.next = next) (hk : s.k = k) (hbs : BaseR s) (K : HR β t v) (g : GR α s w β t v) (htk : t.k.tape = k.tape) : HF β (mixH s t h) t.next t.k v := by
  have hlive : ∀ b o, h b = some o → XT.get b s.heap = none → ∃ l, α b = some l ∧ β b = some l ∧ l.blk < w.heap.size ∧ OR β v l o := fun b o hb hnb => by
    obtain ⟨l, h1, h2⟩ := H.live b o hb
    exact ⟨l, h1, g.le _ _ h1, h2.lt, (OR.at (H.aside hs g hb hnb h1 h2.lt) h2).mono g.le⟩
  have hsep : ∀ b o l b' o' l', h b = some o → XT.get b s.heap = none → β b = some l → XT.get b' t.heap = some o' → β b' = some l' → l.blk ≠ l'.blk := fun b o l b' o' l' hb hnb hl hb' hl' e => by
    obtain ⟨l0, h1, h2, h3, _⟩ := hlive b o hb hnb
    rw [hl] at h2
    cases h2
    rcases g.src b' o' l' hb' hl' with h4 | ⟨b2, o2, l2, h4, h5, h6⟩
    · omega
    · have := H.inj b b2 o o2 l l2 hb (hs _ _ h4) h1 h5 (e.trans h6.symm)
      subst this
      rw [hnb] at h4
      cases h4
  refine ⟨K.sym, K.low, fun b o hm => ?_, fun b b' o o' l l' hm hm' hl hl' e => ?_, K.fresh, fun p q hp => ?_⟩
  · rcases mix_cases hm with ⟨h1, h2⟩ | ⟨h1, _⟩
    · obtain ⟨l, _, h3, _, h4⟩ := hlive b o h2 h1
      exact ⟨l, h3, h4⟩
    · exact K.live b o h1
  · rcases mix_cases hm with ⟨h1, h2⟩ | ⟨h1, _⟩
    · rcases mix_cases hm' with ⟨h3, h4⟩ | ⟨h3, _⟩
      · obtain ⟨m, h5, h6, _⟩ := hlive b o h2 h1
        obtain ⟨m', h7, h8, _⟩ := hlive b' o' h4 h3
        rw [hl] at h6
        rw [hl'] at h8
        cases h6
        cases h8
        exact H.inj b b' o o' l l' h2 h4 h5 h7 e
      · exact absurd e (hsep b o l b' o' l' h2 h1 hl h3 hl')
    · rcases mix_cases hm' with ⟨h3, h4⟩ | ⟨h3, _⟩
      · exact absurd e.symm (hsep b' o' l' b o l h4 h3 hl' h1 hl)
      · exact K.inj b b' o o' l l' h1 h3 hl hl' e
  · obtain ⟨l, n, vs, h1, h1', h2, h3, h4, h5, h6⟩ := K.tp p q hp
    refine ⟨l, n, vs, h1, h1', ?_, h3, fun b o m hb hm => ?_, h5, h6⟩
    · obtain ⟨l0, n0, vs0, q1, q1', q2, q3, q4, q5, q6⟩ := H.tp p q (by rw [← htk]; exact hp)
      have := hbs.2 p q (by rw [hk, ← htk]; exact hp)
      unfold mixH
      rw [this]
      exact h2
    · rcases mix_cases hb with ⟨h7, h8⟩ | ⟨h7, _⟩
      · obtain ⟨m0, h9, h10, h11, _⟩ := hlive b o h8 h7
        rw [hm] at h10
        cases h10
        obtain ⟨l0, n0, vs0, q1, q1', q2, q3, q4, q5, q6⟩ := H.tp p q (by rw [← htk]; exact hp)
        have e2 := g.le _ _ q1'
        rw [h1'] at e2
        cases e2
        exact q4 b o m h8 h9
      · exact h4 b o m h7 hm
theorem GF.step {α0 α β : XM} {s0 s t : XS} {w0 w v : World} {h : XH} {next : XP} {k : XK} (G : GF α0 s0 w0 α h next k w) (H : HF α h next k w) (hs : ∀ b o, XT.get b s.heap = some o → h b = some o) (hn : s.next = next) (hk : s.k = k) (hk0 : k.lo = s0.k.lo) (K : HR β t v) (g : GR α s w β t v) : GF α0 s0 w0 β (mixH s t h) t.next t.k v := by
  have hnx : s0.next.nat ≤ s.next.nat := by rw [hn]; exact G.next
  refine ⟨XM.le_trans G.le g.le, g.os.trans G.os, g.tape.trans G.tape, g.output.trans G.output, Nat.le_trans G.size g.size, fun B hB hno => ?_, fun b o l hm hl => ?_, Nat.le_trans hnx g.next, fun b o l hb hlo hl hlt => ?_, fun b hb => (g.old b (Nat.lt_of_lt_of_le hb hnx)).trans (G.old b hb), fun b o hm => ?_, ?_, fun e => ?_, fun e b l h1 h2 h3 => ?_⟩
  · refine (g.keep B (Nat.lt_of_lt_of_le hB G.size) fun b o l hb hl e => ?_).trans (G.keep B hB hno)
    rcases G.src b o l (hs _ _ hb) hl with h1 | ⟨b', o', l', h1, h2, h3⟩
    · omega
    · exact hno b' o' l' h1 h2 (h3.trans e)
  · rcases mix_cases hm with ⟨h1, h2⟩ | ⟨h1, _⟩
    · obtain ⟨l0, h3, h4⟩ := H.live b o h2
      have := g.le _ _ h3
      rw [hl] at this
      cases this
      exact G.src b o l h2 h3
    · rcases g.src b o l h1 hl with h3 | ⟨b', o', l', h3, h4, h5⟩
      · exact .inl (Nat.le_trans G.size h3)
      · rcases G.src b' o' l' (hs _ _ h3) h4 with h6 | ⟨b2, o2, l2, h6, h7, h8⟩
        · exact .inl (by omega)
        · exact .inr ⟨b2, o2, l2, h6, h7, h8.trans h5⟩
  · obtain ⟨h1, h2⟩ := G.froz b o l hb hlo hl hlt
    have hla := G.le _ _ hl
    have hlt' := Nat.lt_of_lt_of_le hlt G.size
    cases hsb : XT.get b s.heap with
    | none => exact ⟨by simp only [mixH, hsb, h1], (H.aside hs g h1 hsb hla hlt').trans h2⟩
    | some o2 =>
      have := hs _ _ hsb
      rw [h1] at this
      cases this
      obtain ⟨h3, h4⟩ := g.froz b o l hsb (by rw [hk, hk0]; exact hlo) hla hlt'
      exact ⟨by simp only [mixH, hsb, h3], h4.trans h2⟩
  · rcases mix_cases hm with ⟨h1, h2⟩ | ⟨h1, _⟩
    · exact G.nam b o h2
    · rcases g.nam b o h1 with ⟨o', h3⟩ | h3
      · exact G.nam b o' (hs _ _ h3)
      · exact .inr (Nat.le_trans hnx h3)
  · have := g.sc
    have := G.sc
    rw [hk] at *
    omega
  · have h1 := g.sc
    have h2 := G.sc
    rw [hk] at h1
    have e1 : k.script.length = s0.k.script.length := by omega
    have e2 : t.k.script.length = s.k.script.length := by rw [hk]; omega
    rw [g.sk e2, hk, G.sk e1]
  · have e0 : t.k.script.length = s0.k.script.length := by rw [e]
    have h4 := g.sc
    have h5 := G.sc
    rw [hk] at h4
    have e1 : k.script.length = s0.k.script.length := by omega
    have e2 : t.k.script.length = s.k.script.length := by rw [hk]; omega
    obtain ⟨q1, q2⟩ := G.hid (G.sk e1) b l h1 h2 h3
    have hla := G.le _ _ h2
    have hlt' := Nat.lt_of_lt_of_le h3 G.size
    cases hsb : XT.get b s.heap with
    | none => exact ⟨by simp only [mixH, hsb, q1], (H.aside hs g q1 hsb hla hlt').trans q2⟩
    | some o2 =>
      have := hs _ _ hsb
      rw [q1] at this
      cases this
      obtain ⟨q3, q4⟩ := g.hid (g.sk e2) b l hsb hla hlt'
      exact ⟨by simp only [mixH, hsb, q3], q4.trans q2⟩
def putH (n : XP) (o : XO) (h : XH) : XH := fun b => bif b.beq n then some o else h b
theorem putH_cases {n : XP} {o x : XO} {h : XH} {b : XP} (hm : putH n o h b = some x) : (b = n ∧ x = o) ∨ (b ≠ n ∧ h b = some x) := by
  unfold putH at hm
  cases hb : b.beq n with
  | true => rw [hb] at hm; cases hm; exact .inl ⟨XP.beq_eq.1 hb, rfl⟩
  | false => rw [hb] at hm; exact .inr ⟨fun e => (by rw [XP.beq_eq.2 e] at hb; cases hb), hm⟩
theorem putH_self (n : XP) (o : XO) (h : XH) : putH n o h n = some o := by
  unfold putH
  rw [XP.beq_eq.2 rfl]
  rfl
theorem putH_ne {n b : XP} (o : XO) (h : XH) (hb : b ≠ n) : putH n o h b = h b := by
  unfold putH
  cases hq : b.beq n with
  | true => exact absurd (XP.beq_eq.1 hq) hb
  | false => rfl
/-- a new object under a name that waits for it -/
theorem HF.put {α : XM} {h : XH} {next : XP} {k : XK} {w : World} (H : HF α h next k w) {n : XP} (hn : α n = none) (hlt : n.nat < next.nat) (o : XO) (obj : Obj) (room : Nat) (ho : OR α (w.alloc obj) ⟨w.heap.size, room⟩ o) :
    HF (α.put n ⟨w.heap.size, room⟩) (putH n o h) next k (w.alloc obj) := by
  have hle := XM.le_put ⟨w.heap.size, room⟩ hn
  have hold : ∀ j, j < w.heap.size → (w.alloc obj).heap[j]? = w.heap[j]? := fun j hj => by
    show (w.heap.push obj)[j]? = _
    rw [Array.getElem?_push_lt hj, Array.getElem?_eq_getElem hj]
  have hsz : w.heap.size < (w.alloc obj).heap.size := by show _ < (w.heap.push obj).size; simp
  have hnew : ∀ b l, b ≠ n → α.put n ⟨w.heap.size, room⟩ b = some l → α b = some l := fun b l hb hl => by rwa [XM.put_ne _ _ hb] at hl
  refine ⟨H.sym.mono hle, H.low, fun b x hm => ?_, fun b b' x x' l l' hm hm' hl hl' e => ?_, fun b hb => ?_, fun p q hp => ?_⟩
  · rcases putH_cases hm with ⟨rfl, rfl⟩ | ⟨h1, h2⟩
    · exact ⟨_, XM.put_self _ _ _, ho.mono hle⟩
    · obtain ⟨l, h3, h4⟩ := H.live b x h2
      exact ⟨l, hle _ _ h3, (OR.at (hold _ h4.lt) h4).mono hle⟩
  · have hlt2 : ∀ b x l, b ≠ n → h b = some x → α.put n ⟨w.heap.size, room⟩ b = some l → l.blk < w.heap.size := fun b x l hb hx hl => by
      obtain ⟨l0, h3, h4⟩ := H.live b x hx
      rw [hnew b l hb hl] at h3
      cases h3
      exact h4.lt
    rcases putH_cases hm with ⟨rfl, rfl⟩ | ⟨h1, h2⟩
    · rcases putH_cases hm' with ⟨rfl, rfl⟩ | ⟨h3, h4⟩
      · rfl
      · rw [XM.put_self] at hl
        cases hl
        have := hlt2 b' x' l' h3 h4 hl'
        exact absurd e (fun e => by have e : w.heap.size = l'.blk := e; omega)
    · rcases putH_cases hm' with ⟨rfl, rfl⟩ | ⟨h3, h4⟩
      · rw [XM.put_self] at hl'
        cases hl'
        have := hlt2 b x l h1 h2 hl
        exact absurd e (fun e => by have e : l.blk = w.heap.size := e; omega)
      · exact H.inj b b' x x' l l' h2 h4 (hnew b l h1 hl) (hnew b' l' h3 hl') e
  · rw [XM.put_ne _ _ (fun e => by subst e; omega)]
    exact H.fresh b hb
  · obtain ⟨l, m, vs, h1, h1', h2, h3, h4, h5, h6⟩ := H.tp p q hp
    obtain ⟨l', q1, q2⟩ := H.live p _ h2
    rw [h1] at q1
    cases q1
    have hpn : p ≠ n := fun e => by subst e; rw [h1] at hn; cases hn
    refine ⟨l, m, vs, hle _ _ h1, hle _ _ h1', by rw [putH_ne _ _ hpn]; exact h2, Nat.lt_trans h3 hsz, fun b x y hb hy => ?_, forall2_mono (fun _ _ => CR.mono hle) h5, fun z z1 z2 => h6 z (z1.trans (hold _ q2.lt)) (z2.trans (hold _ h3))⟩
    rcases putH_cases hb with ⟨rfl, rfl⟩ | ⟨h7, h8⟩
    · rw [XM.put_self] at hy
      cases hy
      show w.heap.size ≠ _
      omega
    · exact h4 b x y h8 (hnew b y h7 hy)
theorem GF.put {α0 α : XM} {s0 : XS} {w0 w : World} {h : XH} {next : XP} {k : XK} (G : GF α0 s0 w0 α h next k w) (H0 : HR α0 s0 w0) {n : XP} (hn : α n = none) (hge : s0.next.nat ≤ n.nat) (o : XO) (obj : Obj) (room : Nat) :
    GF α0 s0 w0 (α.put n ⟨w.heap.size, room⟩) (putH n o h) next k (w.alloc obj) := by
  have hle := XM.le_put ⟨w.heap.size, room⟩ hn
  have hold : ∀ j, j < w.heap.size → (w.alloc obj).heap[j]? = w.heap[j]? := fun j hj => by
    show (w.heap.push obj)[j]? = _
    rw [Array.getElem?_push_lt hj, Array.getElem?_eq_getElem hj]
  refine ⟨XM.le_trans G.le hle, G.os, G.tape, G.output, Nat.le_trans G.size (by show _ ≤ (w.heap.push obj).size; simp), fun B hB hno => (hold B (Nat.lt_of_lt_of_le hB G.size)).trans (G.keep B hB hno), fun b x l hm hl => ?_, G.next, fun b x l hb hlo hl hlt => ?_, fun b hb => ?_, fun b x hm => ?_, G.sc, G.sk, fun e b l h1 h2 h3 => by
    obtain ⟨q1, q2⟩ := G.hid e b l h1 h2 h3
    have hbn : b ≠ n := fun e => by
      subst e
      obtain ⟨l', h4, _⟩ := H0.live b _ h1
      rw [H0.fresh b hge] at h4
      cases h4
    exact ⟨by rw [putH_ne _ _ hbn]; exact q1, (hold _ (Nat.lt_of_lt_of_le h3 G.size)).trans q2⟩⟩
  · rcases putH_cases hm with ⟨rfl, rfl⟩ | ⟨h1, h2⟩
    · rw [XM.put_self] at hl
      cases hl
      exact .inl G.size
    · exact G.src b x l h2 (by rwa [XM.put_ne _ _ h1] at hl)
  · obtain ⟨h1, h2⟩ := G.froz b x l hb hlo hl hlt
    have hbn : b ≠ n := fun e => by
      subst e
      obtain ⟨l', h3, _⟩ := H0.live b x hb
      rw [H0.fresh b hge] at h3
      cases h3
    exact ⟨by rw [putH_ne _ _ hbn]; exact h1, (hold _ (Nat.lt_of_lt_of_le hlt G.size)).trans h2⟩
  · rw [XM.put_ne _ _ (fun e => by subst e; omega)]
    exact G.old b hb
  · rcases putH_cases hm with ⟨rfl, rfl⟩ | ⟨h1, h2⟩
    · exact .inr hge
    · exact G.nam b x h2
end
end Go.Proofs.YtbddollbjajcnaaGreat
