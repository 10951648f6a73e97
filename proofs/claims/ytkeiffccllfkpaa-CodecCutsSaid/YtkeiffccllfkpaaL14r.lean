/- The stores of CodecRequests. -/
import Derived.Test.YtkeiffccllfkpaaN14
import Derived.Test.YtkeiffccllfkpaaN15
import Derived.Test.YtkeiffccllfkpaaN13
namespace Go.Proofs.Ytkeiffccllfkpaa
open Go.RowKit
set_option linter.unusedSimpArgs false
set_option linter.unusedVariables false

def c14p0 (ps0 : String) : Oper := { dst := some 95, op := Go.Op.fieldAddr 105 (Go.Operand.tmp 3) 1, type := 0, pos := ps0, after := #[], guard := none }
def c14p1 (ps0 : String) : Oper := { dst := some 96, op := Go.Op.load 103 (Go.Operand.tmp 95), type := 103, pos := ps0, after := #[{ on := 0, ground := Go.Ground.data }], guard := none }
def c14p2 (ps0 : String) : Oper := { dst := some 97, op := Go.Op.call { callee := Go.Callee.value (Go.Operand.func 75), args := #[Go.Operand.tmp 96], argTypes := #[103] }, type := 103, pos := ps0, after := #[{ on := 1, ground := Go.Ground.data }], guard := none }
def c14p3 (ps0 : String) : Oper := { dst := some 98, op := Go.Op.fieldAddr 107 (Go.Operand.tmp 4) 0, type := 0, pos := ps0, after := #[], guard := none }
def c14p4 (ps0 : String) : Oper := { dst := some 99, op := Go.Op.load 103 (Go.Operand.tmp 98), type := 103, pos := ps0, after := #[{ on := 3, ground := Go.Ground.data }], guard := none }
def c14p5 (ps0 : String) : Oper := { dst := some 100, op := Go.Op.call { callee := Go.Callee.value (Go.Operand.func 75), args := #[Go.Operand.tmp 99], argTypes := #[103] }, type := 103, pos := ps0, after := #[{ on := 4, ground := Go.Ground.data }, { on := 2, ground := Go.Ground.chain }], guard := none }
def c14p6 (ps0 : String) : Oper := { dst := some 101, op := Go.Op.fieldAddr 107 (Go.Operand.tmp 4) 1, type := 0, pos := ps0, after := #[], guard := none }
def c14p7 (ps0 : String) : Oper := { dst := some 102, op := Go.Op.load 103 (Go.Operand.tmp 101), type := 103, pos := ps0, after := #[{ on := 6, ground := Go.Ground.data }], guard := none }
def c14p8 (ps0 : String) : Oper := { dst := some 103, op := Go.Op.call { callee := Go.Callee.value (Go.Operand.func 75), args := #[Go.Operand.tmp 102], argTypes := #[103] }, type := 103, pos := ps0, after := #[{ on := 7, ground := Go.Ground.data }, { on := 5, ground := Go.Ground.chain }], guard := none }
def c14p9 (ps0 : String) : Oper := { dst := some 104, op := Go.Op.fieldAddr 109 (Go.Operand.tmp 5) 2, type := 0, pos := ps0, after := #[], guard := none }
def c14p10 (ps0 : String) : Oper := { dst := some 105, op := Go.Op.load 103 (Go.Operand.tmp 104), type := 103, pos := ps0, after := #[{ on := 9, ground := Go.Ground.data }], guard := none }
def c14p11 (ps0 : String) : Oper := { dst := some 106, op := Go.Op.call { callee := Go.Callee.value (Go.Operand.func 75), args := #[Go.Operand.tmp 105], argTypes := #[103] }, type := 103, pos := ps0, after := #[{ on := 10, ground := Go.Ground.data }, { on := 8, ground := Go.Ground.chain }], guard := none }
def c14p12 (ps0 : String) : Oper := { dst := some 107, op := Go.Op.fieldAddr 105 (Go.Operand.tmp 3) 1, type := 0, pos := ps0, after := #[{ on := 0, ground := Go.Ground.phase }, { on := 1, ground := Go.Ground.phase }, { on := 2, ground := Go.Ground.phase }, { on := 3, ground := Go.Ground.textOnly Go.Departure.lateStores }, { on := 4, ground := Go.Ground.textOnly Go.Departure.lateStores }, { on := 5, ground := Go.Ground.textOnly Go.Departure.lateStoresUnsure }, { on := 6, ground := Go.Ground.phase }, { on := 7, ground := Go.Ground.phase }, { on := 8, ground := Go.Ground.textOnly Go.Departure.lateStoresUnsure }, { on := 9, ground := Go.Ground.textOnly Go.Departure.lateStores }, { on := 10, ground := Go.Ground.textOnly Go.Departure.lateStores }, { on := 11, ground := Go.Ground.textOnly Go.Departure.lateStoresUnsure }], guard := none }
def c14p13 (ps0 : String) : Oper := { dst := none, op := Go.Op.store 103 (Go.Operand.tmp 107) (Go.Operand.tmp 97), type := 0, pos := ps0, after := #[{ on := 12, ground := Go.Ground.data }, { on := 2, ground := Go.Ground.data }, { on := 11, ground := Go.Ground.chain }, { on := 0, ground := Go.Ground.phase }, { on := 1, ground := Go.Ground.phase }, { on := 2, ground := Go.Ground.phase }, { on := 3, ground := Go.Ground.textOnly Go.Departure.lateStores }, { on := 4, ground := Go.Ground.textOnly Go.Departure.lateStores }, { on := 5, ground := Go.Ground.textOnly Go.Departure.lateStoresUnsure }, { on := 6, ground := Go.Ground.phase }, { on := 7, ground := Go.Ground.phase }, { on := 8, ground := Go.Ground.textOnly Go.Departure.lateStoresUnsure }, { on := 9, ground := Go.Ground.textOnly Go.Departure.lateStores }, { on := 10, ground := Go.Ground.textOnly Go.Departure.lateStores }, { on := 11, ground := Go.Ground.textOnly Go.Departure.lateStoresUnsure }], guard := none }
def c14p14 (ps0 : String) : Oper := { dst := some 108, op := Go.Op.fieldAddr 107 (Go.Operand.tmp 4) 0, type := 0, pos := ps0, after := #[{ on := 0, ground := Go.Ground.phase }, { on := 1, ground := Go.Ground.phase }, { on := 2, ground := Go.Ground.phase }, { on := 3, ground := Go.Ground.phase }, { on := 4, ground := Go.Ground.phase }, { on := 5, ground := Go.Ground.phase }, { on := 6, ground := Go.Ground.phase }, { on := 7, ground := Go.Ground.phase }, { on := 8, ground := Go.Ground.textOnly Go.Departure.lateStoresUnsure }, { on := 9, ground := Go.Ground.textOnly Go.Departure.lateStores }, { on := 10, ground := Go.Ground.textOnly Go.Departure.lateStores }, { on := 11, ground := Go.Ground.textOnly Go.Departure.lateStoresUnsure }, { on := 12, ground := Go.Ground.phase }, { on := 13, ground := Go.Ground.phase }], guard := none }
def c14p15 (ps0 : String) : Oper := { dst := none, op := Go.Op.store 103 (Go.Operand.tmp 108) (Go.Operand.tmp 100), type := 0, pos := ps0, after := #[{ on := 14, ground := Go.Ground.data }, { on := 5, ground := Go.Ground.data }, { on := 13, ground := Go.Ground.chain }, { on := 0, ground := Go.Ground.phase }, { on := 1, ground := Go.Ground.phase }, { on := 2, ground := Go.Ground.phase }, { on := 3, ground := Go.Ground.phase }, { on := 4, ground := Go.Ground.phase }, { on := 5, ground := Go.Ground.phase }, { on := 6, ground := Go.Ground.phase }, { on := 7, ground := Go.Ground.phase }, { on := 8, ground := Go.Ground.textOnly Go.Departure.lateStoresUnsure }, { on := 9, ground := Go.Ground.textOnly Go.Departure.lateStores }, { on := 10, ground := Go.Ground.textOnly Go.Departure.lateStores }, { on := 11, ground := Go.Ground.textOnly Go.Departure.lateStoresUnsure }, { on := 12, ground := Go.Ground.phase }, { on := 13, ground := Go.Ground.phase }], guard := none }
def c14p16 (ps0 : String) : Oper := { dst := some 109, op := Go.Op.fieldAddr 107 (Go.Operand.tmp 4) 1, type := 0, pos := ps0, after := #[{ on := 0, ground := Go.Ground.phase }, { on := 1, ground := Go.Ground.phase }, { on := 2, ground := Go.Ground.phase }, { on := 3, ground := Go.Ground.phase }, { on := 4, ground := Go.Ground.phase }, { on := 5, ground := Go.Ground.phase }, { on := 6, ground := Go.Ground.phase }, { on := 7, ground := Go.Ground.phase }, { on := 8, ground := Go.Ground.phase }, { on := 9, ground := Go.Ground.textOnly Go.Departure.lateStores }, { on := 10, ground := Go.Ground.textOnly Go.Departure.lateStores }, { on := 11, ground := Go.Ground.textOnly Go.Departure.lateStoresUnsure }, { on := 12, ground := Go.Ground.phase }, { on := 13, ground := Go.Ground.phase }, { on := 14, ground := Go.Ground.phase }, { on := 15, ground := Go.Ground.phase }], guard := none }
def c14p17 (ps0 : String) : Oper := { dst := none, op := Go.Op.store 103 (Go.Operand.tmp 109) (Go.Operand.tmp 103), type := 0, pos := ps0, after := #[{ on := 16, ground := Go.Ground.data }, { on := 8, ground := Go.Ground.data }, { on := 15, ground := Go.Ground.chain }, { on := 0, ground := Go.Ground.phase }, { on := 1, ground := Go.Ground.phase }, { on := 2, ground := Go.Ground.phase }, { on := 3, ground := Go.Ground.phase }, { on := 4, ground := Go.Ground.phase }, { on := 5, ground := Go.Ground.phase }, { on := 6, ground := Go.Ground.phase }, { on := 7, ground := Go.Ground.phase }, { on := 8, ground := Go.Ground.phase }, { on := 9, ground := Go.Ground.textOnly Go.Departure.lateStores }, { on := 10, ground := Go.Ground.textOnly Go.Departure.lateStores }, { on := 11, ground := Go.Ground.textOnly Go.Departure.lateStoresUnsure }, { on := 12, ground := Go.Ground.phase }, { on := 13, ground := Go.Ground.phase }, { on := 14, ground := Go.Ground.phase }, { on := 15, ground := Go.Ground.phase }], guard := none }
def c14p18 (ps0 : String) : Oper := { dst := some 110, op := Go.Op.fieldAddr 109 (Go.Operand.tmp 5) 2, type := 0, pos := ps0, after := #[{ on := 0, ground := Go.Ground.phase }, { on := 1, ground := Go.Ground.phase }, { on := 2, ground := Go.Ground.phase }, { on := 3, ground := Go.Ground.phase }, { on := 4, ground := Go.Ground.phase }, { on := 5, ground := Go.Ground.phase }, { on := 6, ground := Go.Ground.phase }, { on := 7, ground := Go.Ground.phase }, { on := 8, ground := Go.Ground.phase }, { on := 9, ground := Go.Ground.phase }, { on := 10, ground := Go.Ground.phase }, { on := 11, ground := Go.Ground.phase }, { on := 12, ground := Go.Ground.phase }, { on := 13, ground := Go.Ground.phase }, { on := 14, ground := Go.Ground.phase }, { on := 15, ground := Go.Ground.phase }, { on := 16, ground := Go.Ground.phase }, { on := 17, ground := Go.Ground.phase }], guard := none }
def c14p19 (ps0 : String) : Oper := { dst := none, op := Go.Op.store 103 (Go.Operand.tmp 110) (Go.Operand.tmp 106), type := 0, pos := ps0, after := #[{ on := 18, ground := Go.Ground.data }, { on := 11, ground := Go.Ground.data }, { on := 17, ground := Go.Ground.chain }, { on := 0, ground := Go.Ground.phase }, { on := 1, ground := Go.Ground.phase }, { on := 2, ground := Go.Ground.phase }, { on := 3, ground := Go.Ground.phase }, { on := 4, ground := Go.Ground.phase }, { on := 5, ground := Go.Ground.phase }, { on := 6, ground := Go.Ground.phase }, { on := 7, ground := Go.Ground.phase }, { on := 8, ground := Go.Ground.phase }, { on := 9, ground := Go.Ground.phase }, { on := 10, ground := Go.Ground.phase }, { on := 11, ground := Go.Ground.phase }, { on := 12, ground := Go.Ground.phase }, { on := 13, ground := Go.Ground.phase }, { on := 14, ground := Go.Ground.phase }, { on := 15, ground := Go.Ground.phase }, { on := 16, ground := Go.Ground.phase }, { on := 17, ground := Go.Ground.phase }], guard := none }
def c14ops (ps0 : String) : List Oper := [c14p0 ps0, c14p1 ps0, c14p2 ps0, c14p3 ps0, c14p4 ps0, c14p5 ps0, c14p6 ps0, c14p7 ps0, c14p8 ps0, c14p9 ps0, c14p10 ps0, c14p11 ps0, c14p12 ps0, c14p13 ps0, c14p14 ps0, c14p15 ps0, c14p16 ps0, c14p17 ps0, c14p18 ps0, c14p19 ps0]
def c14L (q : Req) (l : Lnk) (h : Hld) (X Y Z : Nat) (t : Nat) (_ : World) (v : Value) : Prop :=
  match t with
  | 3 => v = .pointer (some ⟨X, 0, none⟩)
  | 4 => v = .pointer (some ⟨Y, 0, none⟩)
  | 5 => v = .pointer (some ⟨Z, 0, none⟩)
  | 95 => v = .pointer (some ⟨X, 1, none⟩)
  | 96 => v = valIdf q.who ∨ v = valIdf q.who.clean
  | 97 => v = valIdf q.who.clean
  | 98 => v = .pointer (some ⟨Y, 0, none⟩)
  | 99 => v = valIdf l.a ∨ v = valIdf l.a.clean
  | 100 => v = valIdf l.a.clean
  | 101 => v = .pointer (some ⟨Y, 4, none⟩)
  | 102 => v = valIdf l.b ∨ v = valIdf l.b.clean
  | 103 => v = valIdf l.b.clean
  | 104 => v = .pointer (some ⟨Z, 2, none⟩)
  | 105 => v = valIdf h.who ∨ v = valIdf h.who.clean
  | 106 => v = valIdf h.who.clean
  | 107 => v = .pointer (some ⟨X, 1, none⟩)
  | 108 => v = .pointer (some ⟨Y, 0, none⟩)
  | 109 => v = .pointer (some ⟨Y, 4, none⟩)
  | 110 => v = .pointer (some ⟨Z, 2, none⟩)
  | _ => True
def c14J (q : Req) (l : Lnk) (h : Hld) (X Y Z : Nat) (wS W0 : World) (w : World) : Prop :=
  (wS.grownBy w none ∧ W0.heap.size ≤ w.heap.size ∧ ∀ k, k < W0.heap.size → k ≠ X → k ≠ Y → k ≠ Z → w.heap[k]? = W0.heap[k]?) ∧
  (∃ a, (a = q.who ∨ a = q.who.clean) ∧ w.heap[X]? = some (.cells (reqcells { q with who := a }).toArray 105 (0, 0))) ∧
  (∃ b c, (b = l.a ∨ b = l.a.clean) ∧ (c = l.b ∨ c = l.b.clean) ∧ w.heap[Y]? = some (.cells (lnkcells { l with a := b, b := c }).toArray 107 (0, 0))) ∧
  (∃ d, (d = h.who ∨ d = h.who.clean) ∧ w.heap[Z]? = some (.cells (hldcells { h with who := d }).toArray 109 (0, 0)))
def c14D (q : Req) (l : Lnk) (h : Hld) (X Y Z : Nat) (i : Nat) (w : World) : Prop :=
  match i with
  | 13 => w.rangeAt X 1 (idfcells q.who.clean)
  | 15 => w.rangeAt Y 0 (idfcells l.a.clean)
  | 17 => w.rangeAt Y 4 (idfcells l.b.clean)
  | 19 => w.rangeAt Z 2 (idfcells h.who.clean)
  | _ => True
theorem Idf.clean_clean (i : Idf) : i.clean.clean = i.clean := by unfold Idf.clean; simp only [V.clean_of (V.clean_ok _)]
theorem or_clean {a b : Idf} (h : a = b ∨ a = b.clean) : a.clean = b.clean := by
  rcases h with rfl | rfl
  · rfl
  · exact b.clean_clean
theorem c14J_grow (q : Req) (l : Lnk) (h : Hld) (X Y Z : Nat) (wS W0 : World) {w w' : World} (hj : c14J q l h X Y Z wS W0 w) (g : w.grownBy w' none) : c14J q l h X Y Z wS W0 w' := by
  obtain ⟨⟨h1, h2, h3⟩, ⟨a, ha, hx⟩, ⟨b, c, hb, hc, hy⟩, ⟨d, hd, hz⟩⟩ := hj
  refine ⟨⟨grown_trans h1 g, Nat.le_trans h2 g.size, fun k hk x1 x2 x3 => ?_⟩, ⟨a, ha, row_of g hx (by simp)⟩, ⟨b, c, hb, hc, row_of g hy (by simp)⟩, ⟨d, hd, row_of g hz (by simp)⟩⟩
  rw [← h3 k hk x1 x2 x3]
  exact g.block k (Nat.lt_of_lt_of_le hk h2) (by simp)
theorem rangeAt_other {w w' : World} {b o : Nat} {cs : List Value} {A : Nat} (h : w.rangeAt b o cs) (hg : w.grownBy w' (some A)) (hne : b ≠ A) : w'.rangeAt b o cs := fun j v hj => grown_cell hg (h j v hj) (by simpa using hne)
theorem c14D_grow (q : Req) (l : Lnk) (h : Hld) (X Y Z : Nat) {w w' : World} (g : w.grownBy w' none) (j : Nat) (hD : c14D q l h X Y Z j w) : c14D q l h X Y Z j w' := by
  unfold c14D at *
  split at hD
  · exact rangeAt_kept hD g
  · exact rangeAt_kept hD g
  · exact rangeAt_kept hD g
  · exact rangeAt_kept hD g
  · trivial
/-- a store into the middle of a block: the world behind it -/
theorem storeAt_mid {P : Program} {T : TypeId} {b k : Nat} {cs C : List Value} {v : Value} {t : TypeId} {w : World} (ty : TY P T cs v) (hb : w.heap[b]? = some (.cells C.toArray t (0, 0))) (hc : k + cs.length ≤ C.length) :
    ∃ w', (Instr.storeAt T (.pointer (some ⟨b, k, none⟩)) v).run P w = .ok () w' ∧ w.grownBy w' (some b) ∧ w'.heap[b]? = some (.cells (C.take k ++ (cs ++ C.drop (k + cs.length))).toArray t (0, 0)) ∧ w'.rangeAt b k cs ∧ (∀ o ds, (o + ds.length ≤ k ∨ k + cs.length ≤ o) → w.rangeAt b o ds → w'.rangeAt b o ds) := by
  refine ⟨w.setCells b k cs, ?_, setCells_grown b cs k w, setCells_mid C k cs hb hc, ?_, ?_⟩
  · have := run_storeCells_cells (P := P) b k cs 0 w (fun j hj => by
      rw [cell_of_row w b _ _ t _ hb]
      have hj' : k + j < C.length := by omega
      simp [hj']) (fun j hj => frozen_of_row w b _ _ t hb) ty.one
    simp only [Instr.storeAt, Instr.sureAddr, Sem.run_bind, Sem.run_pure, Result.andThen_ok]
    have hs := ty.size
    cases hq : P.info? T with
    | none => simp [hq] at hs
    | some i =>
      have hs' : i.size = cs.length := by simpa [hq] using hs
      simp only [Nat.add_zero] at this
      simp [storeVar, sizeOf, typeInfo, hq, ty.cells, hs', this]
  · have hr := setCells_mid C k cs hb hc
    intro j v hj
    have hjl := (List.getElem?_eq_some_iff.1 hj).1
    rw [cell_of_row _ b _ _ t _ hr]
    have hk : (C.take k).length = k := by rw [List.length_take]; omega
    simp only [List.getElem?_toArray]
    rw [List.getElem?_append_right (by omega), hk, Nat.add_sub_cancel_left, List.getElem?_append_left hjl]
    exact hj
  · intro o ds hod h
    have hr := setCells_mid C k cs hb hc
    intro j v hj
    have hjl := (List.getElem?_eq_some_iff.1 hj).1
    have h0 := h j v hj
    rw [cell_of_row _ b _ _ t _ hb] at h0
    rw [cell_of_row _ b _ _ t _ hr]
    have hk : (C.take k).length = k := by rw [List.length_take]; omega
    simp only [List.getElem?_toArray] at h0 ⊢
    rcases hod with hod | hod
    · rw [List.getElem?_append_left (by omega), List.getElem?_take, if_pos (by omega)]
      exact h0
    · rw [List.getElem?_append_right (by omega), hk, List.getElem?_append_right (by omega), List.getElem?_drop, show k + cs.length + (o + j - k - cs.length) = o + j by omega]
      exact h0
abbrev C14O (ps0 : String) (q : Req) (l : Lnk) (h : Hld) (X Y Z : Nat) (wS W0 : World) (i : Nat) (o : Oper) : Prop := OG Try.prog (c14ops ps0).toArray (c14L q l h X Y Z) (c14J q l h X Y Z wS W0) (c14D q l h X Y Z) 159 i o
set_option maxRecDepth 100000 in
theorem c14_o0 (ps0 : String) (q : Req) (l : Lnk) (h : Hld) (X Y Z : Nat) (wS W0 : World) (hXY : X ≠ Y) (hXZ : X ≠ Z) (hYZ : Y ≠ Z) (hX : wS.heap.size ≤ X) (hY : wS.heap.size ≤ Y) (hZ : wS.heap.size ≤ Z) : C14O ps0 q l h X Y Z wS W0 0 (c14p0 ps0) := og_run trivial (fun _ _ => trivial) fun a w hw hl hs => by
  have e : a.eval (.tmp 3) = _ := (hl 3 (by simp [Oper.looksAt, c14p0, Op.operands, Call.operands]) (by decide))
  exact ⟨.pointer (some ⟨X, 1, none⟩), by simp only [execOp, c14p0, e]; go_simp, fun d hd => by obtain rfl := Option.some.inj hd; exact rfl⟩
set_option maxRecDepth 100000 in
theorem c14_o1 (ps0 : String) (q : Req) (l : Lnk) (h : Hld) (X Y Z : Nat) (wS W0 : World) (hXY : X ≠ Y) (hXZ : X ≠ Z) (hYZ : Y ≠ Z) (hX : wS.heap.size ≤ X) (hY : wS.heap.size ≤ Y) (hZ : wS.heap.size ≤ Z) : C14O ps0 q l h X Y Z wS W0 1 (c14p1 ps0) := og_run trivial (fun _ _ => trivial) fun a w hw hl hs => by
  have e : a.eval (.tmp 95) = .pointer (some ⟨X, 1, none⟩) := (hl 95 (by simp [Oper.looksAt, c14p1, Op.operands, Call.operands]) (by decide))
  obtain ⟨_, ⟨b, hb, hx⟩, _, _⟩ := hw
  refine ⟨valIdf b, ?_, fun d hd => by obtain rfl := Option.some.inj hd; rcases hb with rfl | rfl; exact .inl rfl; exact .inr rfl⟩
  have hr : w.rangeAt X 1 (idfcells b) := range_row hx 1 (idfcells b) rfl
  simp only [execOp, c14p1, e, Instr.loadAt, Instr.sureAddr, Sem.run_bind, Sem.run_pure, Result.andThen_ok, (tyIdf b).load w X 1 hr]
set_option maxRecDepth 100000 in
theorem c14_o2 (ps0 : String) (q : Req) (l : Lnk) (h : Hld) (X Y Z : Nat) (wS W0 : World) (hXY : X ≠ Y) (hXZ : X ≠ Z) (hYZ : Y ≠ Z) (hX : wS.heap.size ≤ X) (hY : wS.heap.size ≤ Y) (hZ : wS.heap.size ≤ Z) : C14O ps0 q l h X Y Z wS W0 2 (c14p2 ps0) := og_call 75 #[.tmp 96] #[103] rfl trivial (enter_of Try.func75 (by kernel_rfl) rfl) fun a w hw hl hs => by
  have e : a.eval (.tmp 96) = valIdf q.who ∨ a.eval (.tmp 96) = valIdf q.who.clean := (hl 96 (by simp [Oper.looksAt, c14p2, Op.operands, Call.operands]) (by decide))
  have hm : (#[Operand.tmp 96] : Array Operand).map a.eval = #[a.eval (.tmp 96)] := by simp
  rw [hm]
  rcases e with e | e
  · rw [e]
    exact (cleanI_walk q.who w).mono fun e w' ⟨he, hg⟩ => ⟨_, he, c14J_grow q l h X Y Z wS W0 hw hg, fun _ _ h => h, fun j _ hj => c14D_grow q l h X Y Z hg j hj, trivial, fun d hd => by obtain rfl := Option.some.inj hd; exact rfl⟩
  · rw [e]
    exact (cleanI_walk q.who.clean w).mono fun e w' ⟨he, hg⟩ => ⟨_, he, c14J_grow q l h X Y Z wS W0 hw hg, fun _ _ h => h, fun j _ hj => c14D_grow q l h X Y Z hg j hj, trivial, fun d hd => by obtain rfl := Option.some.inj hd; exact congrArg valIdf (Idf.clean_clean _)⟩
set_option maxRecDepth 100000 in
theorem c14_o3 (ps0 : String) (q : Req) (l : Lnk) (h : Hld) (X Y Z : Nat) (wS W0 : World) (hXY : X ≠ Y) (hXZ : X ≠ Z) (hYZ : Y ≠ Z) (hX : wS.heap.size ≤ X) (hY : wS.heap.size ≤ Y) (hZ : wS.heap.size ≤ Z) : C14O ps0 q l h X Y Z wS W0 3 (c14p3 ps0) := og_run trivial (fun _ _ => trivial) fun a w hw hl hs => by
  have e : a.eval (.tmp 4) = _ := (hl 4 (by simp [Oper.looksAt, c14p3, Op.operands, Call.operands]) (by decide))
  exact ⟨.pointer (some ⟨Y, 0, none⟩), by simp only [execOp, c14p3, e]; go_simp, fun d hd => by obtain rfl := Option.some.inj hd; exact rfl⟩
set_option maxRecDepth 100000 in
theorem c14_o4 (ps0 : String) (q : Req) (l : Lnk) (h : Hld) (X Y Z : Nat) (wS W0 : World) (hXY : X ≠ Y) (hXZ : X ≠ Z) (hYZ : Y ≠ Z) (hX : wS.heap.size ≤ X) (hY : wS.heap.size ≤ Y) (hZ : wS.heap.size ≤ Z) : C14O ps0 q l h X Y Z wS W0 4 (c14p4 ps0) := og_run trivial (fun _ _ => trivial) fun a w hw hl hs => by
  have e : a.eval (.tmp 98) = .pointer (some ⟨Y, 0, none⟩) := (hl 98 (by simp [Oper.looksAt, c14p4, Op.operands, Call.operands]) (by decide))
  obtain ⟨_, _, ⟨b, c, hb, hc, hx⟩, _⟩ := hw
  refine ⟨valIdf b, ?_, fun d hd => by obtain rfl := Option.some.inj hd; rcases hb with rfl | rfl; exact .inl rfl; exact .inr rfl⟩
  have hr : w.rangeAt Y 0 (idfcells b) := range_row hx 0 (idfcells b) rfl
  simp only [execOp, c14p4, e, Instr.loadAt, Instr.sureAddr, Sem.run_bind, Sem.run_pure, Result.andThen_ok, (tyIdf b).load w Y 0 hr]
set_option maxRecDepth 100000 in
theorem c14_o5 (ps0 : String) (q : Req) (l : Lnk) (h : Hld) (X Y Z : Nat) (wS W0 : World) (hXY : X ≠ Y) (hXZ : X ≠ Z) (hYZ : Y ≠ Z) (hX : wS.heap.size ≤ X) (hY : wS.heap.size ≤ Y) (hZ : wS.heap.size ≤ Z) : C14O ps0 q l h X Y Z wS W0 5 (c14p5 ps0) := og_call 75 #[.tmp 99] #[103] rfl trivial (enter_of Try.func75 (by kernel_rfl) rfl) fun a w hw hl hs => by
  have e : a.eval (.tmp 99) = valIdf l.a ∨ a.eval (.tmp 99) = valIdf l.a.clean := (hl 99 (by simp [Oper.looksAt, c14p5, Op.operands, Call.operands]) (by decide))
  have hm : (#[Operand.tmp 99] : Array Operand).map a.eval = #[a.eval (.tmp 99)] := by simp
  rw [hm]
  rcases e with e | e
  · rw [e]
    exact (cleanI_walk l.a w).mono fun e w' ⟨he, hg⟩ => ⟨_, he, c14J_grow q l h X Y Z wS W0 hw hg, fun _ _ h => h, fun j _ hj => c14D_grow q l h X Y Z hg j hj, trivial, fun d hd => by obtain rfl := Option.some.inj hd; exact rfl⟩
  · rw [e]
    exact (cleanI_walk l.a.clean w).mono fun e w' ⟨he, hg⟩ => ⟨_, he, c14J_grow q l h X Y Z wS W0 hw hg, fun _ _ h => h, fun j _ hj => c14D_grow q l h X Y Z hg j hj, trivial, fun d hd => by obtain rfl := Option.some.inj hd; exact congrArg valIdf (Idf.clean_clean _)⟩
set_option maxRecDepth 100000 in
theorem c14_o6 (ps0 : String) (q : Req) (l : Lnk) (h : Hld) (X Y Z : Nat) (wS W0 : World) (hXY : X ≠ Y) (hXZ : X ≠ Z) (hYZ : Y ≠ Z) (hX : wS.heap.size ≤ X) (hY : wS.heap.size ≤ Y) (hZ : wS.heap.size ≤ Z) : C14O ps0 q l h X Y Z wS W0 6 (c14p6 ps0) := og_run trivial (fun _ _ => trivial) fun a w hw hl hs => by
  have e : a.eval (.tmp 4) = _ := (hl 4 (by simp [Oper.looksAt, c14p6, Op.operands, Call.operands]) (by decide))
  exact ⟨.pointer (some ⟨Y, 4, none⟩), by simp only [execOp, c14p6, e]; go_simp, fun d hd => by obtain rfl := Option.some.inj hd; exact rfl⟩
set_option maxRecDepth 100000 in
theorem c14_o7 (ps0 : String) (q : Req) (l : Lnk) (h : Hld) (X Y Z : Nat) (wS W0 : World) (hXY : X ≠ Y) (hXZ : X ≠ Z) (hYZ : Y ≠ Z) (hX : wS.heap.size ≤ X) (hY : wS.heap.size ≤ Y) (hZ : wS.heap.size ≤ Z) : C14O ps0 q l h X Y Z wS W0 7 (c14p7 ps0) := og_run trivial (fun _ _ => trivial) fun a w hw hl hs => by
  have e : a.eval (.tmp 101) = .pointer (some ⟨Y, 4, none⟩) := (hl 101 (by simp [Oper.looksAt, c14p7, Op.operands, Call.operands]) (by decide))
  obtain ⟨_, _, ⟨b, c, hb, hc, hx⟩, _⟩ := hw
  refine ⟨valIdf c, ?_, fun d hd => by obtain rfl := Option.some.inj hd; rcases hc with rfl | rfl; exact .inl rfl; exact .inr rfl⟩
  have hr : w.rangeAt Y 4 (idfcells c) := range_row hx 4 (idfcells c) rfl
  simp only [execOp, c14p7, e, Instr.loadAt, Instr.sureAddr, Sem.run_bind, Sem.run_pure, Result.andThen_ok, (tyIdf c).load w Y 4 hr]
set_option maxRecDepth 100000 in
theorem c14_o8 (ps0 : String) (q : Req) (l : Lnk) (h : Hld) (X Y Z : Nat) (wS W0 : World) (hXY : X ≠ Y) (hXZ : X ≠ Z) (hYZ : Y ≠ Z) (hX : wS.heap.size ≤ X) (hY : wS.heap.size ≤ Y) (hZ : wS.heap.size ≤ Z) : C14O ps0 q l h X Y Z wS W0 8 (c14p8 ps0) := og_call 75 #[.tmp 102] #[103] rfl trivial (enter_of Try.func75 (by kernel_rfl) rfl) fun a w hw hl hs => by
  have e : a.eval (.tmp 102) = valIdf l.b ∨ a.eval (.tmp 102) = valIdf l.b.clean := (hl 102 (by simp [Oper.looksAt, c14p8, Op.operands, Call.operands]) (by decide))
  have hm : (#[Operand.tmp 102] : Array Operand).map a.eval = #[a.eval (.tmp 102)] := by simp
  rw [hm]
  rcases e with e | e
  · rw [e]
    exact (cleanI_walk l.b w).mono fun e w' ⟨he, hg⟩ => ⟨_, he, c14J_grow q l h X Y Z wS W0 hw hg, fun _ _ h => h, fun j _ hj => c14D_grow q l h X Y Z hg j hj, trivial, fun d hd => by obtain rfl := Option.some.inj hd; exact rfl⟩
  · rw [e]
    exact (cleanI_walk l.b.clean w).mono fun e w' ⟨he, hg⟩ => ⟨_, he, c14J_grow q l h X Y Z wS W0 hw hg, fun _ _ h => h, fun j _ hj => c14D_grow q l h X Y Z hg j hj, trivial, fun d hd => by obtain rfl := Option.some.inj hd; exact congrArg valIdf (Idf.clean_clean _)⟩
set_option maxRecDepth 100000 in
theorem c14_o9 (ps0 : String) (q : Req) (l : Lnk) (h : Hld) (X Y Z : Nat) (wS W0 : World) (hXY : X ≠ Y) (hXZ : X ≠ Z) (hYZ : Y ≠ Z) (hX : wS.heap.size ≤ X) (hY : wS.heap.size ≤ Y) (hZ : wS.heap.size ≤ Z) : C14O ps0 q l h X Y Z wS W0 9 (c14p9 ps0) := og_run trivial (fun _ _ => trivial) fun a w hw hl hs => by
  have e : a.eval (.tmp 5) = _ := (hl 5 (by simp [Oper.looksAt, c14p9, Op.operands, Call.operands]) (by decide))
  exact ⟨.pointer (some ⟨Z, 2, none⟩), by simp only [execOp, c14p9, e]; go_simp, fun d hd => by obtain rfl := Option.some.inj hd; exact rfl⟩
set_option maxRecDepth 100000 in
theorem c14_o10 (ps0 : String) (q : Req) (l : Lnk) (h : Hld) (X Y Z : Nat) (wS W0 : World) (hXY : X ≠ Y) (hXZ : X ≠ Z) (hYZ : Y ≠ Z) (hX : wS.heap.size ≤ X) (hY : wS.heap.size ≤ Y) (hZ : wS.heap.size ≤ Z) : C14O ps0 q l h X Y Z wS W0 10 (c14p10 ps0) := og_run trivial (fun _ _ => trivial) fun a w hw hl hs => by
  have e : a.eval (.tmp 104) = .pointer (some ⟨Z, 2, none⟩) := (hl 104 (by simp [Oper.looksAt, c14p10, Op.operands, Call.operands]) (by decide))
  obtain ⟨_, _, _, ⟨b, hb, hx⟩⟩ := hw
  refine ⟨valIdf b, ?_, fun d hd => by obtain rfl := Option.some.inj hd; rcases hb with rfl | rfl; exact .inl rfl; exact .inr rfl⟩
  have hr : w.rangeAt Z 2 (idfcells b) := range_row hx 2 (idfcells b) rfl
  simp only [execOp, c14p10, e, Instr.loadAt, Instr.sureAddr, Sem.run_bind, Sem.run_pure, Result.andThen_ok, (tyIdf b).load w Z 2 hr]
set_option maxRecDepth 100000 in
theorem c14_o11 (ps0 : String) (q : Req) (l : Lnk) (h : Hld) (X Y Z : Nat) (wS W0 : World) (hXY : X ≠ Y) (hXZ : X ≠ Z) (hYZ : Y ≠ Z) (hX : wS.heap.size ≤ X) (hY : wS.heap.size ≤ Y) (hZ : wS.heap.size ≤ Z) : C14O ps0 q l h X Y Z wS W0 11 (c14p11 ps0) := og_call 75 #[.tmp 105] #[103] rfl trivial (enter_of Try.func75 (by kernel_rfl) rfl) fun a w hw hl hs => by
  have e : a.eval (.tmp 105) = valIdf h.who ∨ a.eval (.tmp 105) = valIdf h.who.clean := (hl 105 (by simp [Oper.looksAt, c14p11, Op.operands, Call.operands]) (by decide))
  have hm : (#[Operand.tmp 105] : Array Operand).map a.eval = #[a.eval (.tmp 105)] := by simp
  rw [hm]
  rcases e with e | e
  · rw [e]
    exact (cleanI_walk h.who w).mono fun e w' ⟨he, hg⟩ => ⟨_, he, c14J_grow q l h X Y Z wS W0 hw hg, fun _ _ h => h, fun j _ hj => c14D_grow q l h X Y Z hg j hj, trivial, fun d hd => by obtain rfl := Option.some.inj hd; exact rfl⟩
  · rw [e]
    exact (cleanI_walk h.who.clean w).mono fun e w' ⟨he, hg⟩ => ⟨_, he, c14J_grow q l h X Y Z wS W0 hw hg, fun _ _ h => h, fun j _ hj => c14D_grow q l h X Y Z hg j hj, trivial, fun d hd => by obtain rfl := Option.some.inj hd; exact congrArg valIdf (Idf.clean_clean _)⟩
set_option maxRecDepth 100000 in
theorem c14_o12 (ps0 : String) (q : Req) (l : Lnk) (h : Hld) (X Y Z : Nat) (wS W0 : World) (hXY : X ≠ Y) (hXZ : X ≠ Z) (hYZ : Y ≠ Z) (hX : wS.heap.size ≤ X) (hY : wS.heap.size ≤ Y) (hZ : wS.heap.size ≤ Z) : C14O ps0 q l h X Y Z wS W0 12 (c14p12 ps0) := og_run trivial (fun _ _ => trivial) fun a w hw hl hs => by
  have e : a.eval (.tmp 3) = _ := (hl 3 (by simp [Oper.looksAt, c14p12, Op.operands, Call.operands]) (by decide))
  exact ⟨.pointer (some ⟨X, 1, none⟩), by simp only [execOp, c14p12, e]; go_simp, fun d hd => by obtain rfl := Option.some.inj hd; exact rfl⟩
set_option maxRecDepth 100000 in
theorem c14_o13 (ps0 : String) (q : Req) (l : Lnk) (h : Hld) (X Y Z : Nat) (wS W0 : World) (hXY : X ≠ Y) (hXZ : X ≠ Z) (hYZ : Y ≠ Z) (hX : wS.heap.size ≤ X) (hY : wS.heap.size ≤ Y) (hZ : wS.heap.size ≤ Z) : C14O ps0 q l h X Y Z wS W0 13 (c14p13 ps0) := og_skip trivial rfl fun a w hw hl hs => by
  have e1 : a.eval (.tmp 107) = .pointer (some ⟨X, 1, none⟩) := (hl 107 (by simp [Oper.looksAt, c14p13, Op.operands, Call.operands]) (by decide))
  have e2 : a.eval (.tmp 97) = valIdf q.who.clean := (hl 97 (by simp [Oper.looksAt, c14p13, Op.operands, Call.operands]) (by decide))
  obtain ⟨⟨h1, h2, h3⟩, ⟨a0, ha, hx⟩, ⟨b, c, hb, hc, hy⟩, ⟨d, hd, hz⟩⟩ := hw
  obtain ⟨w', r1, r2, r3, r4, r5⟩ := storeAt_mid (P := Try.prog) (k := 1) (tyIdf q.who.clean) hx (by simp [reqcells, idfcells])
  refine ⟨w', ?_, ⟨⟨grown_newR h1 r2 (by omega), Nat.le_trans h2 r2.size, fun k hk x1 x2 x3 => ?_⟩, ⟨q.who.clean, .inr rfl, by simpa [reqcells, idfcells] using r3⟩, ⟨b, c, hb, hc, row_of r2 hy (by simp; omega)⟩, ⟨d, hd, row_of r2 hz (by simp; omega)⟩⟩, fun _ _ h => h, fun j hj hD => ?_, r4⟩
  · simp only [execOp, c14p13, e1, e2, Sem.run_bind, Sem.run_pure, Result.andThen_ok, r1]
  · rw [← h3 k hk x1 x2 x3]
    exact r2.block k (Nat.lt_of_lt_of_le hk h2) (by simp; omega)
  · unfold c14D at hD ⊢
    split at hD
    · first | exact (hj rfl).elim | exact rangeAt_other hD r2 (by omega)
    · first | exact (hj rfl).elim | exact rangeAt_other hD r2 (by omega) | exact r5 _ _ (by simp [idfcells]) hD
    · first | exact (hj rfl).elim | exact rangeAt_other hD r2 (by omega) | exact r5 _ _ (by simp [idfcells]) hD
    · first | exact (hj rfl).elim | exact rangeAt_other hD r2 (by omega)
    · trivial
set_option maxRecDepth 100000 in
theorem c14_o14 (ps0 : String) (q : Req) (l : Lnk) (h : Hld) (X Y Z : Nat) (wS W0 : World) (hXY : X ≠ Y) (hXZ : X ≠ Z) (hYZ : Y ≠ Z) (hX : wS.heap.size ≤ X) (hY : wS.heap.size ≤ Y) (hZ : wS.heap.size ≤ Z) : C14O ps0 q l h X Y Z wS W0 14 (c14p14 ps0) := og_run trivial (fun _ _ => trivial) fun a w hw hl hs => by
  have e : a.eval (.tmp 4) = _ := (hl 4 (by simp [Oper.looksAt, c14p14, Op.operands, Call.operands]) (by decide))
  exact ⟨.pointer (some ⟨Y, 0, none⟩), by simp only [execOp, c14p14, e]; go_simp, fun d hd => by obtain rfl := Option.some.inj hd; exact rfl⟩
set_option maxRecDepth 100000 in
theorem c14_o15 (ps0 : String) (q : Req) (l : Lnk) (h : Hld) (X Y Z : Nat) (wS W0 : World) (hXY : X ≠ Y) (hXZ : X ≠ Z) (hYZ : Y ≠ Z) (hX : wS.heap.size ≤ X) (hY : wS.heap.size ≤ Y) (hZ : wS.heap.size ≤ Z) : C14O ps0 q l h X Y Z wS W0 15 (c14p15 ps0) := og_skip trivial rfl fun a w hw hl hs => by
  have e1 : a.eval (.tmp 108) = .pointer (some ⟨Y, 0, none⟩) := (hl 108 (by simp [Oper.looksAt, c14p15, Op.operands, Call.operands]) (by decide))
  have e2 : a.eval (.tmp 100) = valIdf l.a.clean := (hl 100 (by simp [Oper.looksAt, c14p15, Op.operands, Call.operands]) (by decide))
  obtain ⟨⟨h1, h2, h3⟩, ⟨a0, ha, hx⟩, ⟨b, c, hb, hc, hy⟩, ⟨d, hd, hz⟩⟩ := hw
  obtain ⟨w', r1, r2, r3, r4, r5⟩ := storeAt_mid (P := Try.prog) (k := 0) (tyIdf l.a.clean) hy (by simp [lnkcells, idfcells])
  refine ⟨w', ?_, ⟨⟨grown_newR h1 r2 (by omega), Nat.le_trans h2 r2.size, fun k hk x1 x2 x3 => ?_⟩, ⟨a0, ha, row_of r2 hx (by simp; omega)⟩, ⟨l.a.clean, c, .inr rfl, hc, by simpa [lnkcells, idfcells] using r3⟩, ⟨d, hd, row_of r2 hz (by simp; omega)⟩⟩, fun _ _ h => h, fun j hj hD => ?_, r4⟩
  · simp only [execOp, c14p15, e1, e2, Sem.run_bind, Sem.run_pure, Result.andThen_ok, r1]
  · rw [← h3 k hk x1 x2 x3]
    exact r2.block k (Nat.lt_of_lt_of_le hk h2) (by simp; omega)
  · unfold c14D at hD ⊢
    split at hD
    · first | exact (hj rfl).elim | exact rangeAt_other hD r2 (by omega)
    · first | exact (hj rfl).elim | exact rangeAt_other hD r2 (by omega) | exact r5 _ _ (by simp [idfcells]) hD
    · first | exact (hj rfl).elim | exact rangeAt_other hD r2 (by omega) | exact r5 _ _ (by simp [idfcells]) hD
    · first | exact (hj rfl).elim | exact rangeAt_other hD r2 (by omega)
    · trivial
set_option maxRecDepth 100000 in
theorem c14_o16 (ps0 : String) (q : Req) (l : Lnk) (h : Hld) (X Y Z : Nat) (wS W0 : World) (hXY : X ≠ Y) (hXZ : X ≠ Z) (hYZ : Y ≠ Z) (hX : wS.heap.size ≤ X) (hY : wS.heap.size ≤ Y) (hZ : wS.heap.size ≤ Z) : C14O ps0 q l h X Y Z wS W0 16 (c14p16 ps0) := og_run trivial (fun _ _ => trivial) fun a w hw hl hs => by
  have e : a.eval (.tmp 4) = _ := (hl 4 (by simp [Oper.looksAt, c14p16, Op.operands, Call.operands]) (by decide))
  exact ⟨.pointer (some ⟨Y, 4, none⟩), by simp only [execOp, c14p16, e]; go_simp, fun d hd => by obtain rfl := Option.some.inj hd; exact rfl⟩
set_option maxRecDepth 100000 in
theorem c14_o17 (ps0 : String) (q : Req) (l : Lnk) (h : Hld) (X Y Z : Nat) (wS W0 : World) (hXY : X ≠ Y) (hXZ : X ≠ Z) (hYZ : Y ≠ Z) (hX : wS.heap.size ≤ X) (hY : wS.heap.size ≤ Y) (hZ : wS.heap.size ≤ Z) : C14O ps0 q l h X Y Z wS W0 17 (c14p17 ps0) := og_skip trivial rfl fun a w hw hl hs => by
  have e1 : a.eval (.tmp 109) = .pointer (some ⟨Y, 4, none⟩) := (hl 109 (by simp [Oper.looksAt, c14p17, Op.operands, Call.operands]) (by decide))
  have e2 : a.eval (.tmp 103) = valIdf l.b.clean := (hl 103 (by simp [Oper.looksAt, c14p17, Op.operands, Call.operands]) (by decide))
  obtain ⟨⟨h1, h2, h3⟩, ⟨a0, ha, hx⟩, ⟨b, c, hb, hc, hy⟩, ⟨d, hd, hz⟩⟩ := hw
  obtain ⟨w', r1, r2, r3, r4, r5⟩ := storeAt_mid (P := Try.prog) (k := 4) (tyIdf l.b.clean) hy (by simp [lnkcells, idfcells])
  refine ⟨w', ?_, ⟨⟨grown_newR h1 r2 (by omega), Nat.le_trans h2 r2.size, fun k hk x1 x2 x3 => ?_⟩, ⟨a0, ha, row_of r2 hx (by simp; omega)⟩, ⟨b, l.b.clean, hb, .inr rfl, by simpa [lnkcells, idfcells] using r3⟩, ⟨d, hd, row_of r2 hz (by simp; omega)⟩⟩, fun _ _ h => h, fun j hj hD => ?_, r4⟩
  · simp only [execOp, c14p17, e1, e2, Sem.run_bind, Sem.run_pure, Result.andThen_ok, r1]
  · rw [← h3 k hk x1 x2 x3]
    exact r2.block k (Nat.lt_of_lt_of_le hk h2) (by simp; omega)
  · unfold c14D at hD ⊢
    split at hD
    · first | exact (hj rfl).elim | exact rangeAt_other hD r2 (by omega)
    · first | exact (hj rfl).elim | exact rangeAt_other hD r2 (by omega) | exact r5 _ _ (by simp [idfcells]) hD
    · first | exact (hj rfl).elim | exact rangeAt_other hD r2 (by omega) | exact r5 _ _ (by simp [idfcells]) hD
    · first | exact (hj rfl).elim | exact rangeAt_other hD r2 (by omega)
    · trivial
set_option maxRecDepth 100000 in
theorem c14_o18 (ps0 : String) (q : Req) (l : Lnk) (h : Hld) (X Y Z : Nat) (wS W0 : World) (hXY : X ≠ Y) (hXZ : X ≠ Z) (hYZ : Y ≠ Z) (hX : wS.heap.size ≤ X) (hY : wS.heap.size ≤ Y) (hZ : wS.heap.size ≤ Z) : C14O ps0 q l h X Y Z wS W0 18 (c14p18 ps0) := og_run trivial (fun _ _ => trivial) fun a w hw hl hs => by
  have e : a.eval (.tmp 5) = _ := (hl 5 (by simp [Oper.looksAt, c14p18, Op.operands, Call.operands]) (by decide))
  exact ⟨.pointer (some ⟨Z, 2, none⟩), by simp only [execOp, c14p18, e]; go_simp, fun d hd => by obtain rfl := Option.some.inj hd; exact rfl⟩
set_option maxRecDepth 100000 in
theorem c14_o19 (ps0 : String) (q : Req) (l : Lnk) (h : Hld) (X Y Z : Nat) (wS W0 : World) (hXY : X ≠ Y) (hXZ : X ≠ Z) (hYZ : Y ≠ Z) (hX : wS.heap.size ≤ X) (hY : wS.heap.size ≤ Y) (hZ : wS.heap.size ≤ Z) : C14O ps0 q l h X Y Z wS W0 19 (c14p19 ps0) := og_skip trivial rfl fun a w hw hl hs => by
  have e1 : a.eval (.tmp 110) = .pointer (some ⟨Z, 2, none⟩) := (hl 110 (by simp [Oper.looksAt, c14p19, Op.operands, Call.operands]) (by decide))
  have e2 : a.eval (.tmp 106) = valIdf h.who.clean := (hl 106 (by simp [Oper.looksAt, c14p19, Op.operands, Call.operands]) (by decide))
  obtain ⟨⟨h1, h2, h3⟩, ⟨a0, ha, hx⟩, ⟨b, c, hb, hc, hy⟩, ⟨d, hd, hz⟩⟩ := hw
  obtain ⟨w', r1, r2, r3, r4, r5⟩ := storeAt_mid (P := Try.prog) (k := 2) (tyIdf h.who.clean) hz (by simp [hldcells, idfcells])
  refine ⟨w', ?_, ⟨⟨grown_newR h1 r2 (by omega), Nat.le_trans h2 r2.size, fun k hk x1 x2 x3 => ?_⟩, ⟨a0, ha, row_of r2 hx (by simp; omega)⟩, ⟨b, c, hb, hc, row_of r2 hy (by simp; omega)⟩, ⟨h.who.clean, .inr rfl, by simpa [hldcells, idfcells] using r3⟩⟩, fun _ _ h => h, fun j hj hD => ?_, r4⟩
  · simp only [execOp, c14p19, e1, e2, Sem.run_bind, Sem.run_pure, Result.andThen_ok, r1]
  · rw [← h3 k hk x1 x2 x3]
    exact r2.block k (Nat.lt_of_lt_of_le hk h2) (by simp; omega)
  · unfold c14D at hD ⊢
    split at hD
    · first | exact (hj rfl).elim | exact rangeAt_other hD r2 (by omega)
    · first | exact (hj rfl).elim | exact rangeAt_other hD r2 (by omega) | exact r5 _ _ (by simp [idfcells]) hD
    · first | exact (hj rfl).elim | exact rangeAt_other hD r2 (by omega) | exact r5 _ _ (by simp [idfcells]) hD
    · first | exact (hj rfl).elim | exact rangeAt_other hD r2 (by omega)
    · trivial
def c14m : List Bool := [false, false, false, false, false, false, false, false, false, false, false, false, false, false, false, false, false, false, false, false, false, false, false, false, false, false, false, false, false, false, false, false, false, false, false, false, false, false, false, false, false, false, false, false, false, false, false, false, false, false, false, false, false, false, false, false, false, false, false, false, false, false, false, false, false, false, false, false, false, false, false, false, false, false, false, false, false, false, false, false, false, false, false, false, false, false, false, false, false, false, false, false, false, false, false, true, true, true, true, true, true, true, true, true, true, true, true, true, true, true, true, false, false, false, false, false, false, false, false, false, false, false, false, false, false, false, false, false, false, false, false, false, false, false, false, false, false, false, false, false, false, false, false, false, false, false, false, false, false, false, false, false, false, false, false, false, false, false, false]
set_option maxRecDepth 100000 in
theorem c14_reg (ps0 : String) : regB (c14ops ps0).toArray 159 = true := by kernel_rfl
set_option maxRecDepth 100000 in
theorem c14_m (ps0 : String) : dstsB (c14ops ps0) 159 = c14m := by kernel_rfl
set_option maxRecDepth 100000 in
theorem c14_ob (ps0 : String) (q : Req) (l : Lnk) (h : Hld) (X Y Z : Nat) (wS W0 : World) (hXY : X ≠ Y) (hXZ : X ≠ Z) (hYZ : Y ≠ Z) (hX : wS.heap.size ≤ X) (hY : wS.heap.size ≤ Y) (hZ : wS.heap.size ≤ Z) : OGAll Try.prog (c14ops ps0).toArray (c14L q l h X Y Z) (c14J q l h X Y Z wS W0) (c14D q l h X Y Z) 159 0 (c14ops ps0) := ⟨c14_o0 ps0 q l h X Y Z wS W0 hXY hXZ hYZ hX hY hZ, c14_o1 ps0 q l h X Y Z wS W0 hXY hXZ hYZ hX hY hZ, c14_o2 ps0 q l h X Y Z wS W0 hXY hXZ hYZ hX hY hZ, c14_o3 ps0 q l h X Y Z wS W0 hXY hXZ hYZ hX hY hZ, c14_o4 ps0 q l h X Y Z wS W0 hXY hXZ hYZ hX hY hZ, c14_o5 ps0 q l h X Y Z wS W0 hXY hXZ hYZ hX hY hZ, c14_o6 ps0 q l h X Y Z wS W0 hXY hXZ hYZ hX hY hZ, c14_o7 ps0 q l h X Y Z wS W0 hXY hXZ hYZ hX hY hZ, c14_o8 ps0 q l h X Y Z wS W0 hXY hXZ hYZ hX hY hZ, c14_o9 ps0 q l h X Y Z wS W0 hXY hXZ hYZ hX hY hZ, c14_o10 ps0 q l h X Y Z wS W0 hXY hXZ hYZ hX hY hZ, c14_o11 ps0 q l h X Y Z wS W0 hXY hXZ hYZ hX hY hZ, c14_o12 ps0 q l h X Y Z wS W0 hXY hXZ hYZ hX hY hZ, c14_o13 ps0 q l h X Y Z wS W0 hXY hXZ hYZ hX hY hZ, c14_o14 ps0 q l h X Y Z wS W0 hXY hXZ hYZ hX hY hZ, c14_o15 ps0 q l h X Y Z wS W0 hXY hXZ hYZ hX hY hZ, c14_o16 ps0 q l h X Y Z wS W0 hXY hXZ hYZ hX hY hZ, c14_o17 ps0 q l h X Y Z wS W0 hXY hXZ hYZ hX hY hZ, c14_o18 ps0 q l h X Y Z wS W0 hXY hXZ hYZ hX hY hZ, c14_o19 ps0 q l h X Y Z wS W0 hXY hXZ hYZ hX hY hZ, trivial⟩
theorem range_same {w : World} {b o : Nat} {cs ds : List Value} (h : w.rangeAt b o cs) (k : w.rangeAt b o ds) (hl : cs.length = ds.length) : cs = ds := by
  refine List.ext_getElem hl fun j h1 h2 => ?_
  have e1 := h j _ (List.getElem?_eq_getElem h1)
  have e2 := k j _ (List.getElem?_eq_getElem h2)
  rw [e1] at e2
  exact Option.some.inj e2
theorem req_of {q : Req} {a : Idf} {w : World} {X : Nat} (hx : w.heap[X]? = some (.cells (reqcells { q with who := a }).toArray 105 (0, 0))) (hr : w.rangeAt X 1 (idfcells q.who.clean)) : w.heap[X]? = some (.cells (reqcells q.clean).toArray 105 (0, 0)) := by
  have h1 : w.rangeAt X 1 (idfcells a) := range_row hx 1 (idfcells a) rfl
  have e := range_same h1 hr rfl
  rw [hx]
  simp only [reqcells, Req.clean] at e ⊢
  rw [e]
theorem lnk_of {l : Lnk} {a b : Idf} {w : World} {X : Nat} (hx : w.heap[X]? = some (.cells (lnkcells { l with a := a, b := b }).toArray 107 (0, 0))) (hr : w.rangeAt X 0 (idfcells l.a.clean)) (hs : w.rangeAt X 4 (idfcells l.b.clean)) : w.heap[X]? = some (.cells (lnkcells l.clean).toArray 107 (0, 0)) := by
  have h1 : w.rangeAt X 0 (idfcells a) := range_row hx 0 (idfcells a) rfl
  have h2 : w.rangeAt X 4 (idfcells b) := range_row hx 4 (idfcells b) rfl
  have e1 := range_same h1 hr rfl
  have e2 := range_same h2 hs rfl
  rw [hx]
  simp only [lnkcells, Lnk.clean] at e1 e2 ⊢
  rw [e1, e2]
theorem hld_of {h : Hld} {a : Idf} {w : World} {X : Nat} (hx : w.heap[X]? = some (.cells (hldcells { h with who := a }).toArray 109 (0, 0))) (hr : w.rangeAt X 2 (idfcells h.who.clean)) : w.heap[X]? = some (.cells (hldcells h.clean).toArray 109 (0, 0)) := by
  have h1 : w.rangeAt X 2 (idfcells a) := range_row hx 2 (idfcells a) rfl
  have e := range_same h1 hr rfl
  rw [hx]
  simp only [hldcells, Hld.clean] at e ⊢
  rw [e]
end Go.Proofs.Ytkeiffccllfkpaa
