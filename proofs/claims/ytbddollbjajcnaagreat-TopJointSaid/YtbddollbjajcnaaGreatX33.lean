/- The evaluator: what was run once need not be run again. -/
import Derived.Test.YtbddollbjajcnaaGreatX32
namespace Go.Proofs.YtbddollbjajcnaaGreat
open Go
noncomputable section
set_option linter.unusedVariables false
set_option linter.unusedSimpArgs false
variable {P : Program}
/-- the persons alone -/
def XM.low (α : XM) : XM := fun b => bif Nat.ble b.nat 4 then α b else none
theorem XM.low_le (α : XM) : α.low.le α := fun b l h => by
  unfold XM.low at h
  cases hb : Nat.ble b.nat 4 with
  | true => rw [hb] at h; exact h
  | false => rw [hb] at h; cases h
theorem XM.low_at (α : XM) {b : XP} (hb : Nat.ble b.nat 4 = true) : α.low b = α b := by
  unfold XM.low
  rw [hb]
  rfl
theorem SymOK.low {α : XM} (h : SymOK α) : SymOK α.low := by
  refine ⟨fun i hi => ?_, fun i j l m hi hj hl hm => h.apart i j l m hi hj (α.low_le _ _ hl) (α.low_le _ _ hm), fun l m hl hm => h.first l m (α.low_le _ _ hl) (α.low_le _ _ hm)⟩
  obtain ⟨l, h1, h2⟩ := h.at' i hi
  exact ⟨l, by rw [α.low_at hi]; exact h1, h2⟩
/-- a cell that needs no memory -/
def freeC : XC → Bool
  | .bool _ => true
  | .int _ _ => true
  | .str _ => true
  | .per _ i _ => Nat.ble i.nat 4
  | .ptr p => match p with
    | none => true
    | some _ => false
  | .slice p _ _ => match p with
    | none => true
    | some _ => false
  | .map p => match p with
    | none => true
    | some _ => false
  | .nilFn => true
  | .nilI => true
  | .fn _ xs ys => match xs with
    | [] => match ys with
      | [] => true
      | _ => false
    | _ => false
theorem freeC_ok {α β : XM} (hab : ∀ i, Nat.ble i.nat 4 = true → β i = α i) {c : XC} {v : Value} (h : freeC c = true) (k : CR α c v) : CR β c v := by
  cases c with
  | bool b => exact k
  | int q n => exact k
  | str s => exact k
  | nilFn => exact k
  | nilI => exact k
  | per q i d =>
    obtain ⟨l, h1, h2⟩ := k
    exact ⟨l, by rw [hab i h]; exact h1, h2⟩
  | ptr p =>
    cases p with
    | none => exact k
    | some p => cases h
  | slice p n c =>
    cases p with
    | none => exact k
    | some p => cases h
  | map p =>
    cases p with
    | none => exact k
    | some p => cases h
  | fn f xs ys =>
    cases xs with
    | nil =>
      cases ys with
      | nil =>
        obtain ⟨us, vs, h1, h2, h3⟩ := k
        cases h1
        cases h2
        exact ⟨[], [], .nil, .nil, h3⟩
      | cons a l => cases h
    | cons a l => cases h
def freeL : List XC → Bool
  | [] => true
  | c :: l => bif freeC c then freeL l else false
theorem freeL_ok {α β : XM} (hab : ∀ i, Nat.ble i.nat 4 = true → β i = α i) : ∀ {l : List XC} {vs : List Value}, freeL l = true → F2 (CR α) l vs → F2 (CR β) l vs
  | [], _, _, .nil => .nil
  | c :: l, _, h, .cons h1 h2 => by
    obtain ⟨k1, k2⟩ := bif_false h
    exact .cons (freeC_ok hab k1 h1) (freeL_ok hab k2 h2)
def freeV : XV → Bool
  | .one c => freeC c
  | .agg l => freeL l
  | _ => false
theorem freeV_ok {α β : XM} (hab : ∀ i, Nat.ble i.nat 4 = true → β i = α i) {x : XV} {v : Value} (h : freeV x = true) (k : VR α x v) : VR β x v := by
  cases x with
  | one c => exact freeC_ok hab h k
  | agg l =>
    obtain ⟨vs, h1, h2⟩ := k
    exact ⟨vs, freeL_ok hab h h1, h2⟩
  | tup l => cases h
  | any => cases h
def freeVs : List XV → Bool
  | [] => true
  | x :: l => bif freeV x then freeVs l else false
theorem freeVs_ok {α β : XM} (hab : ∀ i, Nat.ble i.nat 4 = true → β i = α i) : ∀ {l : List XV} {vs : List Value}, freeVs l = true → F2 (VR α) l vs → F2 (VR β) l vs
  | [], _, _, .nil => .nil
  | c :: l, _, h, .cons h1 h2 => by
    obtain ⟨k1, k2⟩ := bif_false h
    exact .cons (freeV_ok hab k1 h1) (freeVs_ok hab k2 h2)
/-- a list of objects -/
abbrev XObs := List (XP × XO)
def putAll : XObs → XT XO → XT XO
  | [], h => h
  | x :: l, h => putAll l (XT.put (some x.2) x.1 h)
theorem putAll_get {b : XP} {o : XO} : ∀ {l : XObs} {h : XT XO}, XT.get b (putAll l h) = some o → (b, o) ∈ l ∨ XT.get b h = some o
  | [], h, k => .inr k
  | (c, q) :: l, h, k => by
    rcases putAll_get (l := l) k with k | k
    · exact .inl (List.mem_cons_of_mem _ k)
    · by_cases e : c = b
      · subst e
        rw [XT.get_put] at k
        cases k
        exact .inl List.mem_cons_self
      · rw [XT.get_put_ne _ _ _ _ e] at k
        exact .inr k
def sameE (x y : XEnt) : Bool := bif sameV x.1 y.1 then (bif sameV x.2.1 y.2.1 then Nat.beq x.2.2 y.2.2 else false) else false
theorem sameE_ok {x y : XEnt} (h : sameE x y = true) : x = y := by
  obtain ⟨h1, h2⟩ := bif_false h
  obtain ⟨h2, h3⟩ := bif_false h2
  exact Prod.ext (sameV_ok h1) (Prod.ext (sameV_ok h2) (Nat.eq_of_beq_eq_true h3))
def sameO : XO → XO → Bool
  | .row c, .row d => sameL sameC c d
  | .map es m, .map fs n => bif Nat.beq m n then sameL sameE es fs else false
  | _, _ => false
theorem sameO_ok {x y : XO} (h : sameO x y = true) : x = y := by
  unfold sameO at h
  split at h
  · rw [sameL_ok (fun _ _ => sameC_ok) h]
  · obtain ⟨h1, h2⟩ := bif_false h
    rw [Nat.eq_of_beq_eq_true h1, sameL_ok (fun _ _ => sameE_ok) h2]
  · cases h
def subL : XObs → XT XO → Bool
  | [], _ => true
  | x :: l, h => match XT.get x.1 h with
    | some o => bif sameO o x.2 then subL l h else false
    | none => false
theorem subL_ok {h : XT XO} : ∀ {l : XObs}, subL l h = true → ∀ b o, (b, o) ∈ l → XT.get b h = some o
  | [], _, b, o, hm => by cases hm
  | x :: l, hs, b, o, hm => by
    unfold subL at hs
    split at hs
    · rename_i q hq
      obtain ⟨h1, h2⟩ := bif_false hs
      rcases List.mem_cons.1 hm with e | hm
      · rw [← e] at hq h1
        rw [hq, sameO_ok h1]
      · exact subL_ok h2 b o hm
    · cases hs
def XK.bare (N : XP) : XK := ⟨N.nat, none, [], .leaf⟩
/-- the run of a call: all outcomes give x -/
def runsTo (run : XS → Option (List (XV × XS))) (h : XT XO) (N : XP) (x : XV) : Bool :=
  match run ⟨h, N, XK.bare N⟩ with
  | some l => match l with
    | [] => false
    | _ => bif freeV x then sameAll x l else false
  | none => false
theorem runsTo_ok {run : XS → Option (List (XV × XS))} {h : XT XO} {N : XP} {x : XV} (k : runsTo run h N x = true) : ∃ outs, run ⟨h, N, XK.bare N⟩ = some outs ∧ freeV x = true ∧ ∀ p ∈ outs, p.1 = x := by
  unfold runsTo at k
  split at k
  · rename_i l hl
    split at k
    · cases k
    · obtain ⟨h1, h2⟩ := bif_false k
      exact ⟨l, hl, h1, sameAll_ok h2⟩
  · cases k
/-- where a call has written nothing that was there -/
theorem HR.past {α β : XM} {s t : XS} {w v : World} {h : XT XO} {N : XP} {α1 : XM} (H : HR α s w) (hsub : ∀ b o, XT.get b h = some o → XT.get b s.heap = some o ∧ α1 b = α b) (H1 : HR α1 ⟨h, N, XK.bare N⟩ w) (g : GR α1 ⟨h, N, XK.bare N⟩ w β t v) : HR α s v ∧ GR α s w α s v := by
  have hold : ∀ b o l, XT.get b s.heap = some o → α b = some l → l.blk < w.heap.size → v.heap[l.blk]? = w.heap[l.blk]? := fun b o l hb hl hlt => by
    cases hh : XT.get b h with
    | some o' =>
      obtain ⟨h1, h2⟩ := hsub b o' hh
      have hlow : b.nat < N.nat := by
        rcases Nat.lt_or_ge b.nat N.nat with q | q
        · exact q
        · have := H1.fresh b q
          rw [h2, hl] at this
          cases this
      exact (g.froz b o' l hh hlow (by rw [h2]; exact hl) hlt).2
    | none =>
      refine g.keep l.blk hlt fun b' o' l' hb' hl' e => ?_
      obtain ⟨h1, h2⟩ := hsub b' o' hb'
      rw [h2] at hl'
      have := H.inj b b' o o' l l' hb h1 hl hl' e.symm
      subst this
      have hb' : XT.get b h = some o' := hb'
      rw [hh] at hb'
      cases hb'
  have hkeep : ∀ B, B < w.heap.size → (∀ b o l, XT.get b s.heap = some o → α b = some l → l.blk ≠ B) → v.heap[B]? = w.heap[B]? := fun B hB hn => g.keep B hB fun b o l hb hl => by
    obtain ⟨h1, h2⟩ := hsub b o hb
    rw [h2] at hl
    exact hn b o l h1 hl
  have G : GR α s w α s v := ⟨XM.le_refl α, g.os, g.tape, g.output, g.size, hkeep, fun b o l h1 h2 => .inr ⟨b, o, l, h1, h2, rfl⟩, Nat.le_refl _, rfl, fun b o l h1 _ h3 h4 => ⟨h1, hold b o l h1 h3 h4⟩, fun _ _ => rfl, fun b o h1 => .inl ⟨o, h1⟩, Nat.le_refl _, fun _ => rfl, fun _ b l h1 h3 h4 => ⟨h1, hold b _ l h1 h3 h4⟩⟩
  have m := H.more G rfl
  exact ⟨⟨H.sym, H.low, fun b o hb => by
    obtain ⟨l, h1, h2⟩ := H.live b o hb
    exact ⟨l, h1, OR.at (hold b o l hb h1 h2.lt) h2⟩, H.inj, H.fresh, m.1, m.2⟩, G⟩
/-- a call that needs no memory -/
theorem memo_free {g : FuncId} {args : List XV} {run : XS → Option (List (XV × XS))} (hr : ∀ s outs, run s = some outs → FnE P g ∧ CallOK P g args s outs) {N : XP} (hN : Nat.ble 5 N.nat = true) {x : XV} (ha : freeVs args = true) (hx : runsTo run .leaf N x = true) (s : XS) : FnE P g ∧ CallOK P g args s [(x, s)] := by
  obtain ⟨outs, h1, h2, h3⟩ := runsTo_ok hx
  obtain ⟨hE, hC⟩ := hr _ _ h1
  refine ⟨hE, fun α w vs H hargs R hR => ?_⟩
  have H1 : HR α.low ⟨.leaf, N, XK.bare N⟩ w := by
    refine ⟨H.sym.low, Nat.le_refl _, fun b o hb => ?_, fun b b' o o' l l' hb => ?_, fun b hb => ?_, fun p q hp => (by cases hp), fun b o hb => ?_, fun p q hp => (by cases hp)⟩
    · have hb : XT.get b .leaf = some o := hb
      rw [XT.get_leaf] at hb; cases hb
    · have hb : XT.get b .leaf = some o := hb
      rw [XT.get_leaf] at hb; cases hb
    · have hb : N.nat ≤ b.nat := hb
      have h5 := Nat.le_of_ble_eq_true hN
      unfold XM.low
      cases hq : Nat.ble b.nat 4 with
      | true => have := Nat.le_of_ble_eq_true hq; omega
      | false => rfl
    · have hb : XT.get b .leaf = some o := hb
      rw [XT.get_leaf] at hb; cases hb
  have hlow : ∀ i, Nat.ble i.nat 4 = true → α.low i = α i := fun i hi => α.low_at hi
  refine hC α.low w vs H1 (freeVs_ok hlow ha hargs) R fun y t hm β v w' k1 k2 k3 k4 => ?_
  have hy : y = x := h3 _ hm
  subst hy
  have hback : ∀ i, Nat.ble i.nat 4 = true → α i = β i := fun i hi => by
    obtain ⟨l, q1, _⟩ := H.sym.at' i hi
    have := k3.le i l (by rw [hlow i hi]; exact q1)
    rw [q1, this]
  obtain ⟨q1, q2⟩ := H.past (h := .leaf) (fun b o hb => by rw [XT.get_leaf] at hb; cases hb) H1 k3
  exact hR y s (List.mem_singleton.2 rfl) α v w' (freeV_ok hback h2 k1) q1 q2 (KS.refl _)
/-- a call that needs some objects, which it does not write -/
theorem memo_heap {g : FuncId} {args : List XV} {run : XS → Option (List (XV × XS))} (hr : ∀ s outs, run s = some outs → FnE P g ∧ CallOK P g args s outs) {N : XP} {B : XObs} {x : XV} (hx : runsTo run (putAll B .leaf) N x = true) {s : XS} (hN : Nat.ble s.next.nat N.nat = true) (hs : subL B s.heap = true) : FnE P g ∧ CallOK P g args s [(x, s)] := by
  obtain ⟨outs, h1, h2, h3⟩ := runsTo_ok hx
  obtain ⟨hE, hC⟩ := hr _ _ h1
  refine ⟨hE, fun α w vs H hargs R hR => ?_⟩
  have hN := Nat.le_of_ble_eq_true hN
  have hsub : ∀ b o, XT.get b (putAll B .leaf) = some o → XT.get b s.heap = some o := fun b o hb => by
    rcases putAll_get hb with h | h
    · exact subL_ok hs b o h
    · rw [XT.get_leaf] at h; cases h
  have H1 : HR α ⟨putAll B .leaf, N, XK.bare N⟩ w := by
    refine ⟨H.sym, Nat.le_refl _, fun b o hb => H.live b o (hsub b o hb), fun b b' o o' l l' hb hb' => H.inj b b' o o' l l' (hsub _ _ hb) (hsub _ _ hb'), fun b hb => H.fresh b (Nat.le_trans hN hb), fun p q hp => (by cases hp), fun b o hb => ?_, fun p q hp => (by cases hp)⟩
    have hb : XT.get b .leaf = some o := hb
    rw [XT.get_leaf] at hb; cases hb
  refine hC α w vs H1 hargs R fun y t hm β v w' k1 k2 k3 k4 => ?_
  have hy : y = x := h3 _ hm
  subst hy
  have hback : ∀ i, Nat.ble i.nat 4 = true → α i = β i := fun i hi => by
    obtain ⟨l, q1, _⟩ := H.sym.at' i hi
    have := k3.le i l q1
    rw [q1, this]
  obtain ⟨q1, q2⟩ := H.past (fun b o hb => ⟨hsub b o hb, rfl⟩) H1 k3
  exact hR y s (List.mem_singleton.2 rfl) α v w' (freeV_ok hback h2 k1) q1 q2 (KS.refl _)
/-- what is remembered of a function: arguments and values -/
abbrev Memo := List (List XV × XV)
def findM (args : List XV) : Memo → Option XV
  | [] => none
  | e :: l => bif sameL sameV args e.1 then some e.2 else findM args l
theorem findM_ok {args : List XV} {x : XV} : ∀ {l : Memo}, findM args l = some x → (args, x) ∈ l
  | [], h => by cases h
  | e :: l, h => by
    unfold findM at h
    cases hb : sameL sameV args e.1 with
    | true =>
      rw [hb] at h
      cases h
      rw [sameL_ok (fun _ _ => sameV_ok) hb]
      exact List.mem_cons_self
    | false => rw [hb] at h; exact List.mem_cons_of_mem _ (findM_ok h)
inductive TM where
  | leaf
  | one (g : FuncId) (l : Memo)
  | node (k : Nat) (l r : TM)
def TM.at (g : FuncId) : TM → Memo
  | .leaf => []
  | .one h l => bif Nat.beq g h then l else []
  | .node k l r => bif Nat.blt g k then TM.at g l else TM.at g r
def MemoOK (P : Program) (g : FuncId) (l : Memo) : Prop := ∀ args x, (args, x) ∈ l → ∀ s, FnE P g ∧ CallOK P g args s [(x, s)]
inductive TM.OK (P : Program) : TM → Prop where
  | leaf : TM.OK P .leaf
  | one {g : FuncId} {l : Memo} (h : MemoOK P g l) : TM.OK P (.one g l)
  | node {k : Nat} {l r : TM} (hl : TM.OK P l) (hr : TM.OK P r) : TM.OK P (.node k l r)
theorem TM.at_ok {g : FuncId} : ∀ {t : TM}, t.OK P → MemoOK P g (t.at g)
  | .leaf, _ => fun args x h => by cases h
  | .one g' l, .one k => by
    unfold TM.at
    cases hb : Nat.beq g g' with
    | true => rw [Nat.eq_of_beq_eq_true hb]; exact k
    | false => exact fun args x h => by cases h
  | .node k l r, .node hl hr => by
    unfold TM.at
    cases hb : Nat.blt g k with
    | true => exact TM.at_ok hl
    | false => exact TM.at_ok hr
def memoX (M : TM) (g : FuncId) (args : List XV) (s : XS) : Option (List (XV × XS)) :=
  match M.at g with
  | [] => none
  | l => ob (findM args l) fun x => some [(x, s)]
theorem memoX_ok {M : TM} (h : M.OK P) : CallF.OK P (memoX M) := fun g args s outs k => by
  unfold memoX at k
  split at k
  · cases k
  · obtain ⟨x, h1, h2⟩ := ob_some k
    cases h2
    exact TM.at_ok h args x (findM_ok h1) s
/-- all entries of a function run so -/
def memoB (run : List XV → XS → Option (List (XV × XS))) (N : XP) : Memo → Bool
  | [] => true
  | e :: l => bif freeVs e.1 then (bif runsTo (run e.1) .leaf N e.2 then memoB run N l else false) else false
theorem memoB_ok {g : FuncId} {run : List XV → XS → Option (List (XV × XS))} (hr : ∀ args s outs, run args s = some outs → FnE P g ∧ CallOK P g args s outs) {N : XP} (hN : Nat.ble 5 N.nat = true) : ∀ {l : Memo}, memoB run N l = true → MemoOK P g l
  | [], _ => fun args x h => by cases h
  | e :: l, h => by
    obtain ⟨h1, h2⟩ := bif_false h
    obtain ⟨h2, h3⟩ := bif_false h2
    intro args x hm s
    rcases List.mem_cons.1 hm with q | hm
    · cases q
      exact memo_free (hr _) hN h1 h2 s
    · exact memoB_ok hr hN h3 args x hm s
end
end Go.Proofs.YtbddollbjajcnaaGreat
