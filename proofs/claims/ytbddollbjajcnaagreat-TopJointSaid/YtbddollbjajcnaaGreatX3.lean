/- The evaluator: reading and writing cells, whole variables. -/
import Derived.Test.YtbddollbjajcnaaGreatX2
namespace Go.Proofs.YtbddollbjajcnaaGreat
open Go
noncomputable section
set_option linter.unusedVariables false
theorem PR.one {α : XM} {a : Option XA} {v : Value} (h : PR α a v) : ∃ p, v = .pointer p := by
  cases a with
  | none => exact ⟨_, h⟩
  | some p => obtain ⟨l, _, h2⟩ := h; exact ⟨_, h2⟩
theorem CR.one {α : XM} : ∀ {c : XC} {v : Value}, CR α c v → v.oneCell' = true
  | .bool _, _, h => by obtain rfl := h; rfl
  | .int _ _, _, h => by obtain rfl := h; rfl
  | .str _, _, h => by obtain rfl := h; rfl
  | .ptr _, _, h => by obtain ⟨p, rfl⟩ := PR.one h; rfl
  | .slice none _ _, _, h => by obtain ⟨_, _, rfl⟩ := h; rfl
  | .slice (some (b, o)) n (.is c), _, h => by obtain ⟨_, l, _, rfl⟩ := h; rfl
  | .slice (some (b, o)) n (.opn z), _, h => by obtain ⟨l, c, _, _, _, rfl⟩ := h; rfl
  | .map none, _, h => by obtain rfl := h; rfl
  | .map (some b), _, h => by obtain ⟨l, _, rfl⟩ := h; rfl
  | .fn f xs ys, _, h => by obtain ⟨us, vs, _, _, rfl⟩ := h; rfl
  | .nilFn, _, h => by obtain rfl := h; rfl
  | .nilI, _, h => by obtain rfl := h; rfl
  | .per _ _ _, _, h => by obtain ⟨l, _, rfl⟩ := h; rfl
theorem oneCell_cells {v : Value} (h : v.oneCell' = true) : v.cells = #[v] := by
  cases v <;> first | rfl | (simp [Value.oneCell'] at h)
def XV.cells : XV → Option (List XC)
  | .one c => some [c]
  | .agg l => some l
  | _ => none
theorem VR.cells {α : XM} {x : XV} {v : Value} {l : List XC} (h : VR α x v) (hl : x.cells = some l) : ∃ vs, F2 (CR α) l vs ∧ v.cells = vs.toArray := by
  cases x with
  | one c =>
    cases hl
    exact ⟨[v], .cons h .nil, oneCell_cells (CR.one h)⟩
  | agg m =>
    cases hl
    obtain ⟨vs, h1, rfl⟩ := h
    exact ⟨vs, h1, rfl⟩
  | tup m => cases hl
  | any => cases hl
theorem F2.ones {α : XM} {l : List XC} {vs : List Value} (h : F2 (CR α) l vs) : ∀ v ∈ vs, v.oneCell' = true := by
  induction h with
  | nil => intro v h; cases h
  | cons h1 _ ih =>
    intro v hv
    rcases List.mem_cons.1 hv with rfl | hv
    · exact CR.one h1
    · exact ih v hv
def rdC (s : XS) (b : XP) (o n : Nat) : Option (List XC) :=
  match XT.get b s.heap with
  | some (.row c) => match List.take n (List.drop o c) with
    | r => bif Nat.beq r.length n then some r else none
  | _ => none
def wrC (s : XS) (b : XP) (o : Nat) (xs : List XC) : Option XS :=
  match XT.get b s.heap with
  | some (.row c) => bif s.may b then (bif Nat.ble (Nat.add o xs.length) c.length then some ⟨XT.put (some (.row (List.append (List.take o c) (List.append xs (List.drop (Nat.add o xs.length) c))))) b s.heap, s.next, s.k⟩ else none) else none
  | _ => none
theorem rdC_spec {s : XS} {b : XP} {o n : Nat} {r : List XC} (h : rdC s b o n = some r) : ∃ c, XT.get b s.heap = some (.row c) ∧ r = (c.drop o).take n ∧ r.length = n := by
  unfold rdC at h
  split at h
  · rename_i c hc
    cases hb : Nat.beq (List.take n (List.drop o c)).length n with
    | true =>
      simp only [hb, cond_true] at h
      cases h
      exact ⟨c, hc, rfl, Nat.eq_of_beq_eq_true hb⟩
    | false => simp only [hb, cond_false] at h; cases h
  · cases h
theorem wrC_k {s t : XS} {b : XP} {o : Nat} {xs : List XC} (h : wrC s b o xs = some t) : t.k = s.k := by
  unfold wrC at h
  split at h
  · rename_i c hc
    cases h1 : s.may b with
    | false => simp only [h1, cond_false] at h; cases h
    | true =>
      cases h2 : Nat.ble (Nat.add o xs.length) c.length with
      | false => simp only [h1, h2, cond_true, cond_false] at h; cases h
      | true => simp only [h1, h2, cond_true] at h; cases h; rfl
  · cases h
/-- what is read lies there -/
theorem HR.read {α : XM} {s : XS} {w : World} (h : HR α s w) {b : XP} {o n : Nat} {r : List XC} (hr : rdC s b o n = some r) {l : XL} (hl : α b = some l) : ∃ vs, F2 (CR α) r vs ∧ w.rangeAt l.blk o vs := by
  obtain ⟨c, hc, rfl, hn⟩ := rdC_spec hr
  obtain ⟨l', h1, arr, e, h2, h3, h4, h5⟩ := h.live b _ hc
  rw [hl] at h1
  cases h1
  have hlen : o + n ≤ c.length ∨ n = 0 := by rw [List.length_take, List.length_drop] at hn; omega
  refine ⟨(arr.toList.drop o).take n, F2.of ?_ fun i x v hx hv => ?_, fun j v hv => ?_⟩
  · rw [hn, List.length_take, List.length_drop, Array.length_toList]
    omega
  · have hi : i < n := by have := (List.getElem?_eq_some_iff.1 hx).1; omega
    rw [List.getElem?_take, if_pos hi, List.getElem?_drop] at hx hv
    obtain ⟨u, h6, h7⟩ := h5 _ _ hx
    rw [Array.getElem?_toList, h6] at hv
    cases hv
    exact h7
  · have hj : j < n := by
      have := (List.getElem?_eq_some_iff.1 hv).1
      rw [List.length_take] at this
      omega
    rw [List.getElem?_take, if_pos hj, List.getElem?_drop, Array.getElem?_toList] at hv
    unfold World.cell?
    simp only [h2]
    exact hv
/-- the row of a block behind setCells -/
theorem setCells_row (b : Nat) (e : TypeId) : ∀ (vs : List Value) (o : Nat) (w : World) (arr : Array Value), w.heap[b]? = some (.cells arr e (0, 0)) → o + vs.length ≤ arr.size →
    ∃ arr' : Array Value, (w.setCells b o vs).heap[b]? = some (.cells arr' e (0, 0)) ∧ arr'.size = arr.size ∧ ∀ i, arr'[i]? = if o ≤ i ∧ i < o + vs.length then vs[i - o]? else arr[i]?
  | [], o, w, arr, hb, hl => ⟨arr, hb, rfl, fun i => by rw [if_neg (by simp)]⟩
  | v :: r, o, w, arr, hb, hl => by
    have h1 : (w.setCell ⟨b, o, none⟩ v).heap[b]? = some (.cells (arr.setIfInBounds o v) e (0, 0)) := by
      rw [setCell_eq_setRow w b o arr e (0, 0) v hb]
      exact setRow_heap w b arr _ e (0, 0) hb
    obtain ⟨arr', h2, h3, h4⟩ := setCells_row b e r (o + 1) _ _ h1 (by simp at hl ⊢; omega)
    refine ⟨arr', h2, by rw [h3]; simp, fun i => ?_⟩
    rw [h4 i]
    simp only [List.length_cons] at hl ⊢
    by_cases c1 : o + 1 ≤ i ∧ i < o + 1 + r.length
    · rw [if_pos c1, if_pos (by omega), show i - o = (i - (o + 1)) + 1 by omega, List.getElem?_cons_succ]
    · rw [if_neg c1]
      by_cases c2 : i = o
      · subst c2
        rw [if_pos (by omega), Nat.sub_self, List.getElem?_cons_zero, Array.getElem?_setIfInBounds_self_of_lt (by omega)]
      · rw [if_neg (by omega), Array.getElem?_setIfInBounds_ne (by omega)]
theorem setCells_by (b : Nat) : ∀ (vs : List Value) (o : Nat) (w : World), w.grownBy (w.setCells b o vs) (some b)
  | [], _, w => World.grownBy.refl _ _
  | v :: r, o, w => by
    have h1 : w.grownBy (w.setCell ⟨b, o, none⟩ v) (some b) := ⟨rfl, rfl, rfl, by simp [World.setCell], fun k _ hk => by
      show (w.heap.modify b _)[k]? = _
      rw [Array.getElem?_modify, if_neg (fun e => hk (by rw [e]))]⟩
    have h2 := setCells_by b r (o + 1) (w.setCell ⟨b, o, none⟩ v)
    exact ⟨h2.os.trans h1.os, h2.tape.trans h1.tape, h2.output.trans h1.output, Nat.le_trans h1.size h2.size, fun k hk hne => (h2.block k (Nat.lt_of_lt_of_le hk h1.size) hne).trans (h1.block k hk hne)⟩
/-- the row that an object becomes where some of its cells are written -/
theorem OR.write {α : XM} {w : World} {l : XL} {c : List XC} (h : OR α w l (.row c)) {o : Nat} {xs : List XC} {vs : List Value} (hx : F2 (CR α) xs vs) (hle : o + xs.length ≤ c.length) :
    OR α (w.setCells l.blk o vs) l (.row (c.take o ++ (xs ++ c.drop (o + xs.length)))) := by
  obtain ⟨arr, e, h1, h2, h3, h4⟩ := h
  have hxl := hx.length
  obtain ⟨arr', h5, h6, h7⟩ := setCells_row l.blk e vs o w arr h1 (by omega)
  have hlen : (c.take o ++ (xs ++ c.drop (o + xs.length))).length = c.length := by
    simp only [List.length_append, List.length_take, List.length_drop]
    omega
  refine ⟨arr', e, h5, by omega, by omega, fun i x hi => ?_⟩
  have hil : i < c.length := by have := (List.getElem?_eq_some_iff.1 hi).1; omega
  rw [h7 i]
  by_cases c1 : i < o
  · rw [if_neg (by omega)]
    rw [List.getElem?_append_left (by rw [List.length_take]; omega), List.getElem?_take, if_pos c1] at hi
    exact h4 i x hi
  · rw [List.getElem?_append_right (by rw [List.length_take]; omega), List.length_take, Nat.min_eq_left (by omega)] at hi
    by_cases c2 : i < o + xs.length
    · rw [if_pos (by omega)]
      rw [List.getElem?_append_left (by omega)] at hi
      obtain ⟨v, h8, h9⟩ := hx.get _ _ hi
      exact ⟨v, h8, h9⟩
    · rw [if_neg (by omega)]
      rw [List.getElem?_append_right (by omega), List.getElem?_drop, show o + xs.length + (i - o - xs.length) = i by omega] at hi
      exact h4 i x hi
theorem there_row {w : World} {b o n : Nat} {arr : Array Value} {e : TypeId} (h : w.heap[b]? = some (.cells arr e (0, 0))) (hl : o + n ≤ arr.size) : w.there b o n := fun j hj => by
  constructor
  · unfold World.cell?
    simp only [h]
    rw [if_neg (by simp), Array.getElem?_eq_getElem (by omega)]
    rfl
  · unfold World.frozen?
    simp only [h]
    simp
/-- writing -/
theorem HR.wr {α : XM} {s t : XS} {w : World} (h : HR α s w) {b : XP} {o : Nat} {xs : List XC} {vs : List Value} (hw : wrC s b o xs = some t) (hx : F2 (CR α) xs vs) {l : XL} (hl : α b = some l) :
    w.there l.blk o vs.length ∧ HR α t (w.setCells l.blk o vs) ∧ GR α s w α t (w.setCells l.blk o vs) := by
  unfold wrC at hw
  split at hw
  · rename_i c hc
    cases hmay : s.may b with
    | false => simp only [hmay, cond_false] at hw; cases hw
    | true =>
    cases hb : Nat.ble (Nat.add o xs.length) c.length with
    | false => simp only [hmay, hb, cond_false, cond_true] at hw; cases hw
    | true =>
      simp only [hmay, hb, cond_true] at hw
      cases hw
      have hle : o + xs.length ≤ c.length := Nat.le_of_ble_eq_true hb
      obtain ⟨l', h1, h2⟩ := h.live b _ hc
      rw [hl] at h1
      cases h1
      have h2' := h2
      obtain ⟨arr, e, h3, h4, h5, _⟩ := h2'
      have := hx.length
      exact ⟨there_row h3 (by omega), h.turn hc (fun e => by cases e) hl hmay (setCells_by _ _ _ _) (h2.write hx hle)⟩
  · cases hw
end
end Go.Proofs.YtbddollbjajcnaaGreat
