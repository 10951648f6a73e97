/- Laws at single operations. (printed by mk.py) -/
import Derived.Test.YteakoleceoclkaaB
namespace Go.Proofs.Yteakoleceoclkaa
open Go.RowKit
theorem setCells_mid {w : World} {b : Nat} {t : TypeId} (C : List Value) (o : Nat) (vs : List Value) (h : w.heap[b]? = some (.cells C.toArray t (0, 0))) (ho : o + vs.length ≤ C.length) :
    (w.setCells b o vs).heap[b]? = some (.cells (C.take o ++ (vs ++ C.drop (o + vs.length))).toArray t (0, 0)) := by
  have key : ∀ (vs : List Value) (o : Nat) (w : World) (pre mid post : List Value), o = pre.length → vs.length = mid.length → w.heap[b]? = some (.cells (pre ++ (mid ++ post)).toArray t (0, 0)) →
      (w.setCells b o vs).heap[b]? = some (.cells (pre ++ (vs ++ post)).toArray t (0, 0)) := by
    intro vs
    induction vs with
    | nil =>
      intro o w pre mid post _ hl h
      obtain rfl : mid = [] := List.eq_nil_of_length_eq_zero (by simpa using hl.symm)
      exact h
    | cons v r ih =>
      intro o w pre mid post ho hl h
      cases mid with
      | nil => simp at hl
      | cons x mid =>
        rw [World.setCells]
        have := heap_setCell_same w b o _ t v h
        have e : ((pre ++ (x :: mid ++ post)).toArray.setIfInBounds o v) = ((pre ++ [v]) ++ (mid ++ post)).toArray := by
          subst ho
          simp
        rw [e] at this
        have := ih (o + 1) _ (pre ++ [v]) mid post (by simp [ho]) (by simpa using hl) this
        simpa using this
  refine key vs o w (C.take o) ((C.drop o).take vs.length) (C.drop (o + vs.length)) (by simp; omega) (by simp; omega) ?_
  rw [← List.drop_drop, List.take_append_drop, List.take_append_drop]
  exact h

theorem range_row {w : World} {b : Nat} {C : Array Value} {t : TypeId} {fr : Nat × Nat} (h : w.heap[b]? = some (.cells C t fr)) (o : Nat) (l : List Value) (hd : (C.toList.drop o).take l.length = l) : w.rangeAt b o l := fun j v hj => by
  rw [cell_of_row w b _ _ t fr h]
  have hjl := (List.getElem?_eq_some_iff.1 hj).1
  rw [← hd] at hj
  rw [List.getElem?_take, if_pos hjl, List.getElem?_drop] at hj
  simpa using hj
/-- a store into the middle of a block, the world behind it a letter -/
theorem wpList_storeAt {P : Program} {ops : Array Oper} {rest : List Oper} {o : Oper} {a : Act} {w : World} {Q : Exit → Act → World → Prop} (hgd : o.guard = none) (T : TypeId) (x y : Operand) (ho : o.op = .store T x y)
    {b k : Nat} {cs C : List Value} {v : Value} {t : TypeId} (hx : a.eval x = .pointer (some ⟨b, k, none⟩)) (hy : a.eval y = v) (ty : TY P T cs v) (hb : w.heap[b]? = some (.cells C.toArray t (0, 0))) (hc : k + cs.length ≤ C.length)
    (h : ∀ w', w.grownBy w' (some b) → w'.heap[b]? = some (.cells (C.take k ++ (cs ++ C.drop (k + cs.length))).toArray t (0, 0)) → wpList P ops Q rest (a.put o.dst undef) w') : wpList P ops Q (o :: rest) a w := by
  refine wpList_plain hgd fun K hK => ?_
  have hl : (Instr.storeAt T (.pointer (some ⟨b, k, none⟩)) v).run P w = .ok () (w.setCells b k cs) := by
    have := run_storeCells_cells (P := P) b k cs 0 w (fun j hj => by
      rw [cell_of_row w b _ _ t _ hb]
      have hj' : k + j < C.length := by omega
      simp [hj']) (fun j hj => frozen_of_row w b _ _ t hb) ty.one
    simp only [Instr.storeAt, Instr.sureAddr, Sem.run_bind, Sem.run_pure, Result.andThen_ok]
    have hs := ty.size
    cases hq : P.info? T with
    | none => simp [hq] at hs
    | some i =>
      have hs' : i.size = cs.length := by simpa [hq] using hs
      simp only [Nat.add_zero] at this
      simp [storeVar, sizeOf, typeInfo, hq, ty.cells, hs', this]
  unfold Oper.wp execOp
  simp only [ho, hx, hy, Sem.run_bind, Sem.run_pure, Result.andThen_ok, hl]
  exact hK _ _ (h _ (setCells_grown b cs k w) (setCells_mid C k cs hb hc))
/-- a load from the middle of a block -/
theorem wpList_loadAt {P : Program} {ops : Array Oper} {rest : List Oper} {o : Oper} {a : Act} {w : World} {Q : Exit → Act → World → Prop} (hgd : o.guard = none) (T : TypeId) (x : Operand) (ho : o.op = .load T x)
    {b k : Nat} {cs : List Value} {v : Value} (hx : a.eval x = .pointer (some ⟨b, k, none⟩)) (ty : TY P T cs v) (hr : w.rangeAt b k cs)
    (h : wpList P ops Q rest (a.put o.dst v) w) : wpList P ops Q (o :: rest) a w := by
  refine wpList_plain hgd fun K hK => ?_
  have hl := ty.load w b k hr
  unfold Oper.wp execOp
  simp only [ho, hx, Instr.loadAt, Instr.sureAddr, Sem.run_bind, Sem.run_pure, Result.andThen_ok, hl]
  exact hK _ _ h
theorem wpList_loadTY {P : Program} {ops : Array Oper} {rest : List Oper} {o : Oper} {a : Act} {w : World} {Q : Exit → Act → World → Prop} (hgd : o.guard = none) (T : TypeId) (x : Operand) (ho : o.op = .load T x)
    {b : Nat} {cs : List Value} {v : Value} {t : TypeId} {fr : Nat × Nat} (hx : a.eval x = .pointer (some ⟨b, 0, none⟩)) (ty : TY P T cs v) (hb : w.heap[b]? = some (.cells cs.toArray t fr))
    (h : wpList P ops Q rest (a.put o.dst v) w) : wpList P ops Q (o :: rest) a w := by
  refine wpList_plain hgd fun K hK => ?_
  have hl := ty.loads hb
  unfold ptr at hl
  unfold Oper.wp execOp
  simp only [ho, hx, Sem.run_bind, Sem.run_pure, Result.andThen_ok, hl]
  exact hK _ _ h
theorem wpList_storeTY {P : Program} {ops : Array Oper} {rest : List Oper} {o : Oper} {a : Act} {w : World} {Q : Exit → Act → World → Prop} (hgd : o.guard = none) (T : TypeId) (x y : Operand) (ho : o.op = .store T x y)
    {b : Nat} {cs : List Value} {c0 : Array Value} {v : Value} {t : TypeId} (hx : a.eval x = .pointer (some ⟨b, 0, none⟩)) (hy : a.eval y = v) (ty : TY P T cs v) (hb : w.heap[b]? = some (.cells c0 t (0, 0))) (hc : c0.size = cs.length)
    (h : wpList P ops Q rest (a.put o.dst undef) (w.setCells b 0 cs)) : wpList P ops Q (o :: rest) a w := by
  refine wpList_plain hgd fun K hK => ?_
  have hl := (ty.stores hb hc).1
  unfold ptr at hl
  unfold Oper.wp execOp
  simp only [ho, hx, hy, Sem.run_bind, Sem.run_pure, Result.andThen_ok, hl]
  exact hK _ _ h
/-- a store of a whole value, the world behind it a letter -/
theorem wpList_storeTYg {P : Program} {ops : Array Oper} {rest : List Oper} {o : Oper} {a : Act} {w : World} {Q : Exit → Act → World → Prop} (hgd : o.guard = none) (T : TypeId) (x y : Operand) (ho : o.op = .store T x y)
    {b : Nat} {cs : List Value} {c0 : Array Value} {v : Value} {t : TypeId} (hx : a.eval x = .pointer (some ⟨b, 0, none⟩)) (hy : a.eval y = v) (ty : TY P T cs v) (hb : w.heap[b]? = some (.cells c0 t (0, 0))) (hc : c0.size = cs.length)
    (h : ∀ w', w.grownBy w' (some b) → w'.heap[b]? = some (.cells cs.toArray t (0, 0)) → wpList P ops Q rest (a.put o.dst undef) w') : wpList P ops Q (o :: rest) a w :=
  wpList_storeTY hgd T x y ho hx hy ty hb hc (h _ (ty.stores hb hc).2.1 (ty.stores hb hc).2.2)
theorem grown_newR {a b c : World} {R : Nat} (h : a.grownBy b none) (k : b.grownBy c (some R)) (hR : a.heap.size ≤ R) : a.grownBy c none :=
  ⟨k.os.trans h.os, k.tape.trans h.tape, k.output.trans h.output, Nat.le_trans h.size k.size, fun i hi _ =>
    (k.block i (Nat.lt_of_lt_of_le hi h.size) (by simp; omega)).trans (h.block i hi (by simp))⟩
/-- the one result lies whole in a block -/
theorem ret_cell {P : Program} {fn : Func} {p : Tmp} {T : TypeId} (h : fn.results = #[.cell p T]) {a : Act} {w : World} {b : Nat} {cs : List Value} {v : Value} {u : TypeId} {fr : Nat × Nat} {R : Ending → World → Prop}
    (hp : a.tmps.getD p undef = ptr b) (t : TY P T cs v) (hb : w.heap[b]? = some (.cells cs.toArray u fr)) (hd : a.defers = []) (hR : R (.returned v) w) : bodyPost P fn R .ret a w := by
  have e := t.load w b 0 (rangeAt_row hb)
  have hp' : a.tmps[p]?.getD undef = .pointer (some ⟨b, 0, none⟩) := by simpa [ptr] using hp
  exact bodyPost_ret (v := v) (by simp [results, h, hp', asAddr, e]) hd hR
theorem Own.kn {w w' : World} {e : TypeId} {sz : Nat} {v : Value} {n : Nat} {xs : List Value} (h : Own w e sz v n xs) (hg : w.grownBy w' Option.none) : Own w' e sz v n xs := h.kept hg (by cases v.ownBlock <;> simp)
/-- another block of another type is written -/
theorem Own.past {w w' : World} {e T : TypeId} {sz : Nat} {v : Value} {n : Nat} {xs : List Value} {A : Nat} {c : Array Value} {fr : Nat × Nat} (h : Own w e sz v n xs) (g : w.grownBy w' (some A)) (hA : w.heap[A]? = some (.cells c T fr)) (hne : e ≠ T) : Own w' e sz v n xs :=
  h.kept g (.inr (Own.ne h hA hne))
theorem grown_drew (w : World) : w.grownBy w.drew none := ⟨rfl, rfl, rfl, Nat.le_refl _, fun _ _ _ => rfl⟩
theorem wpList_onG {P : Program} {ops : Array Oper} {rest : List Oper} {o : Oper} {a : Act} {w : World} {Q : Exit → Act → World → Prop} (hw : Region.wanted o (yielded ops a.tmps) = true)
    (h : ∀ K, (∀ a' w', wpList P ops Q rest a' w' → K a' w') → Oper.wp P o a w K Q) : wpList P ops Q (o :: rest) a w := by
  unfold Go.wpList
  rw [if_pos hw]
  exact .inl (h _ fun _ _ h => h)
theorem wpList_loadG {P : Program} {ops : Array Oper} {rest : List Oper} {o : Oper} {a : Act} {w : World} {Q : Exit → Act → World → Prop} (hw : Region.wanted o (yielded ops a.tmps) = true) (T : TypeId) (x : Operand) (ho : o.op = .load T x)
    {b k : Nat} {cs : List Value} {v : Value} (hx : a.eval x = .pointer (some ⟨b, k, none⟩)) (ty : TY P T cs v) (hr : w.rangeAt b k cs)
    (h : wpList P ops Q rest (a.put o.dst v) w) : wpList P ops Q (o :: rest) a w := by
  refine wpList_onG hw fun K hK => ?_
  have hl := ty.load w b k hr
  unfold Oper.wp execOp
  simp only [ho, hx, Instr.loadAt, Instr.sureAddr, Sem.run_bind, Sem.run_pure, Result.andThen_ok, hl]
  exact hK _ _ h
theorem Own.block {w : World} {base : Nat} {e : TypeId} {sz : Nat} {v : Value} {n : Nat} {xs : List Value} (h : w.ownsRow base e sz v n xs) {b : Nat} (hb : v.ownBlock = some b) : ∃ c fr, w.heap[b]? = some (.cells c e fr) := by
  rcases h.2 with ⟨rfl, _⟩ | ⟨g, cap, cur, rfl, _, hg, _⟩
  · simp [Value.ownBlock] at hb
  · simp [Value.ownBlock] at hb
    subst hb
    exact ⟨_, _, hg⟩
/-- rows of two types lie apart -/
theorem Own.apart {w : World} {e e' : TypeId} {sz sz' : Nat} {v u : Value} {n m : Nat} {xs ys : List Value} (h : Own w e sz v n xs) (k : Own w e' sz' u m ys) (hne : e ≠ e') : v.ownBlock = none ∨ v.ownBlock ≠ u.ownBlock := by
  cases hv : v.ownBlock with
  | none => exact .inl rfl
  | some b =>
    refine .inr fun e => ?_
    obtain ⟨c, fr, hb⟩ := Own.block h hv
    exact Own.ne k hb (fun e => hne e.symm) e.symm
theorem results3 {P : Program} {fn : Func} {p q r : Tmp} {T S E : TypeId} (h : fn.results = #[.cell p T, .cell q S, .cell r E]) {tmps : Array Value} {w : World} {b0 b1 b2 : Nat} {c0 c1 c2 : List Value} {v0 v1 v2 : Value} {fr0 fr1 fr2 : Nat × Nat} {u0 u1 u2 : TypeId}
    (hp : tmps.getD p undef = ptr b0) (hq : tmps.getD q undef = ptr b1) (hr : tmps.getD r undef = ptr b2) (t0 : TY P T c0 v0) (t1 : TY P S c1 v1) (t2 : TY P E c2 v2)
    (h0 : w.heap[b0]? = some (.cells c0.toArray u0 fr0)) (h1 : w.heap[b1]? = some (.cells c1.toArray u1 fr1)) (h2 : w.heap[b2]? = some (.cells c2.toArray u2 fr2)) :
    (results fn tmps).run P w = .ok (.tuple #[v0, v1, v2]) w := by
  have e0 := t0.load w b0 0 (rangeAt_row h0)
  have e1 := t1.load w b1 0 (rangeAt_row h1)
  have e2 := t2.load w b2 0 (rangeAt_row h2)
  have hp' : tmps[p]?.getD undef = .pointer (some ⟨b0, 0, none⟩) := by simpa [ptr] using hp
  have hq' : tmps[q]?.getD undef = .pointer (some ⟨b1, 0, none⟩) := by simpa [ptr] using hq
  have hr' : tmps[r]?.getD undef = .pointer (some ⟨b2, 0, none⟩) := by simpa [ptr] using hr
  simp [results, h, hp', hq', hr', asAddr, e0, e1, e2]

end Go.Proofs.Yteakoleceoclkaa
