/- SX: single operations in a forced order; control; entering and leaving. -/
import Derived.Test.YteakoleceoclkaaSX2
namespace Go.Proofs.Yteakoleceoclkaa
open Go.RowKit
set_option linter.unusedSimpArgs false
set_option linter.unusedVariables false

def okVs (K : List (Nat × Value)) (l : List Operand) : Bool := l.all (okV K)
def evVs (K : List (Nat × Value)) (l : List Operand) : List Value := l.map (evV K)
theorem Sv.evs {n : Nat} {D : List Deferred} {K : List (Nat × Value)} {a : Act} (h : Sv n D K a) {l : List Operand} (hl : okVs K l = true) : l.map a.eval = evVs K l :=
  List.map_congr_left fun x hx => h.ev (List.all_eq_true.1 hl x hx) rfl
theorem KnV.tm {a a' : Act} (e : a.tmps = a'.tmps) : ∀ {K : List (Nat × Value)}, KnV a K → KnV a' K
  | [], _ => trivial
  | p :: _, h => ⟨by rw [← e]; exact h.1, KnV.tm e h.2⟩
section
variable {P : Program} {Q : Exit → Act → World → Prop} {ops : Array Oper} {rest : List Oper} {o : Oper} {a : Act} {w : World} {n : Nat} {D : List Deferred} {K : List (Nat × Value)}
/-- what runs to a value -/
theorem tl_run (sv : Sv n D K a) (hgd : o.guard = none) {d : Nat} {v : Value} {w' : World} (hd : o.dst = some d) (hdn : decide (d < n) = true) (hr : (execOp a.eval o).run P w = .ok (.value v) w')
    (h : ∀ a', Sv n D ((d, v) :: delK d K) a' → wpList P ops Q rest a' w') : wpList P ops Q (o :: rest) a w := by
  refine wpList_plain hgd fun K' hK => ?_
  unfold Oper.wp
  rw [hr, Oper.upon_value, hd]
  exact hK _ _ (h _ (sv.put (of_decide_eq_true hdn) v))
/-- a new block of a zero value -/
theorem tl_alloc (sv : Sv n D K a) (hgd : o.guard = none) {d : Nat} {T : TypeId} {Z : List Value} (hd : o.dst = some d) (hdn : decide (d < n) = true)
    (hr : ∀ (a : Act) (w : World), (execOp a.eval o).run P w = .ok (.value (.pointer (some ⟨w.heap.size, 0, none⟩))) (w.alloc (.cells Z.toArray T)))
    (h : ∀ a' w' b, b = w.heap.size → w.grownBy w' none → w'.heap.size = b + 1 → w'.heap[b]? = some (.cells Z.toArray T (0, 0)) → Sv n D ((d, .pointer (some ⟨b, 0, none⟩)) :: delK d K) a' → wpList P ops Q rest a' w') : wpList P ops Q (o :: rest) a w :=
  tl_run sv hgd hd hdn (hr a w) fun a' sv' => h a' _ _ rfl (World.grownBy_alloc _ _ _) (by simp) (heap_at rfl) sv'
/-- a parameter is laid in a block -/
theorem tl_box (sv : Sv n D K a) (hgd : o.guard = none) {d : Nat} {T : TypeId} {x : Operand} {v : Value} {cs : List Value} (ho : o.op = .box T x) (hd : o.dst = some d) (hdn : decide (d < n) = true) (hx : okV K x = true) (hv : evV K x = v) (ty : TY P T cs v)
    (h : ∀ a' w' b, b = w.heap.size → w.grownBy w' none → w'.heap.size = b + 1 → w'.heap[b]? = some (.cells cs.toArray T (0, 0)) → Sv n D ((d, .pointer (some ⟨b, 0, none⟩)) :: delK d K) a' → wpList P ops Q rest a' w') : wpList P ops Q (o :: rest) a w := by
  refine tl_run (w' := w.alloc (.cells cs.toArray T)) sv hgd hd hdn ?_ fun a' sv' => h a' _ _ rfl (World.grownBy_alloc _ _ _) (by simp) (heap_at rfl) sv'
  have e := sv.ev hx hv
  simp only [execOp, ho, e]
  simp [Instr.box, newVar, newRow, newObj, ty.cells, Result.andThen]
  rfl
/-- a call of a function, whatever it does -/
theorem tl_call (sv : Sv n D K a) (hgd : o.guard = none) {f d : Nat} {args : Array Operand} {tys : Array TypeId} {R : Value → World → Prop} (ho : o.op = .call { callee := .value (.func f), args := args, argTypes := tys }) (hd : o.dst = some d) (hdn : decide (d < n) = true)
    (hx : okVs K args.toList = true) (hc : Calls P f (evVs K args.toList).toArray w fun e w' => ∃ v, e = .returned v ∧ R v w')
    (hrun : ∀ (av : Array Value) w, ((Deferred.ofValue (.func (.func f) #[] #[]) av).run P w).andThen (fun a w' => (invoke a.target a.args).run P w') = .ok (.enter f av) w)
    (h : ∀ a' v w', R v w' → Sv n D ((d, v) :: delK d K) a' → wpList P ops Q rest a' w') : wpList P ops Q (o :: rest) a w := by
  refine wpList_plain hgd fun K' hK => ?_
  have e := sv.evs hx
  have hargs : args.map a.eval = (evVs K args.toList).toArray := by
    rw [← e]; apply Array.ext'; simp
  have hr : (execOp a.eval o).run P w = .ok (.enter f (evVs K args.toList).toArray) w := by
    simp only [execOp, ho, resolve, Act.eval, Sem.run_bind]
    have h1 := hrun (args.map a.eval) w
    rw [hargs] at h1
    first
      | exact h1
      | (rw [hargs]; exact h1)
  unfold Oper.wp
  rw [hr, Oper.upon_enter]
  refine hc.mono ?_
  rintro e w' ⟨v, rfl, hR⟩
  show K' (a.put o.dst v) w'
  rw [hd]
  exact hK _ _ (h _ v w' hR (sv.put (of_decide_eq_true hdn) v))
/-- what is deferred -/
theorem tl_defer (sv : Sv n D K a) (hgd : o.guard = none) {dd : Deferred} (hd : o.dst = none) (hr : (execOp a.eval o).run P w = .ok (.defer dd) w) (h : ∀ a', Sv n (dd :: D) K a' → wpList P ops Q rest a' w) : wpList P ops Q (o :: rest) a w := by
  refine wpList_plain hgd fun K' hK => ?_
  unfold Oper.wp
  rw [hr, Oper.upon_defer, hd]
  refine hK _ _ (h _ ⟨sv.1, ?_, ?_⟩)
  · show dd :: a.defers = dd :: D
    rw [sv.2.1]
  · refine KnV.tm (a := a) ?_ sv.2.2
    rfl
/-- a store of a whole block -/
theorem tl_storeW (sv : Sv n D K a) (hgd : o.guard = none) {T : TypeId} {x y : Operand} (ho : o.op = .store T x y) (hd : o.dst = none) {b : Nat} {v : Value} (hx : okV K x = true) (hxv : evV K x = .pointer (some ⟨b, 0, none⟩)) (hy : okV K y = true) (hyv : evV K y = v)
    {cs C : List Value} (ty : TY P T cs v) {t : TypeId} (hb : w.heap[b]? = some (.cells C.toArray t (0, 0))) (hB : C.length = cs.length)
    (h : ∀ w', w.grownBy w' (some b) → w'.heap[b]? = some (.cells cs.toArray t (0, 0)) → wpList P ops Q rest a w') : wpList P ops Q (o :: rest) a w := by
  refine wpList_storeTYg hgd T x y ho (sv.ev hx hxv) (sv.ev hy hyv) ty hb (by simpa using hB) fun w' g hb' => ?_
  have e : o.dst = none := hd
  rw [e]
  exact h w' g hb'
theorem flatten_split {L : List (List Value)} {i : Nat} {B : List Value} (hi : L[i]? = some B) : L.flatten = (L.take i).flatten ++ (B ++ (L.drop (i + 1)).flatten) := by
  have hlt := (List.getElem?_eq_some_iff.1 hi).1
  have hB := (List.getElem?_eq_some_iff.1 hi).2
  conv => lhs; rw [← List.take_append_drop i L, List.drop_eq_getElem_cons hlt, hB]
  simp
theorem flatten_set {L : List (List Value)} {i : Nat} {B cs : List Value} (hi : L[i]? = some B) : (L.set i cs).flatten = (L.take i).flatten ++ (cs ++ (L.drop (i + 1)).flatten) := by
  have hlt := (List.getElem?_eq_some_iff.1 hi).1
  rw [flatten_split (B := cs) (show (L.set i cs)[i]? = some cs by simp [hlt])]
  rw [List.take_set_of_le (Nat.le_refl _), List.drop_set_of_lt (Nat.lt_succ_self _)]
/-- one part of a block -/
theorem range_part {w : World} {b k : Nat} {L : List (List Value)} {i : Nat} {B : List Value} {t : TypeId} {fr : Nat × Nat} (h : w.heap[b]? = some (.cells L.flatten.toArray t fr)) (hi : L[i]? = some B) (hk : (L.take i).flatten.length = k) : w.rangeAt b k B := by
  intro j v hj
  rw [cell_of_row _ _ _ _ _ _ h, flatten_split hi]
  subst hk
  have hjl := (List.getElem?_eq_some_iff.1 hj).1
  simp only [List.getElem?_toArray]
  rw [List.getElem?_append_right (Nat.le_add_right _ _), Nat.add_sub_cancel_left, List.getElem?_append_left hjl]
  exact hj
/-- a store of one part of a block -/
theorem tl_storeP {L : List (List Value)} {i : Nat} (sv : Sv n D K a) (hgd : o.guard = none) {T : TypeId} {x y : Operand} (ho : o.op = .store T x y) (hd : o.dst = none) {b k : Nat} {v : Value} (hx : okV K x = true) (hxv : evV K x = .pointer (some ⟨b, k, none⟩)) (hy : okV K y = true) (hyv : evV K y = v)
    {cs B : List Value} (ty : TY P T cs v) {t : TypeId} (hb : w.heap[b]? = some (.cells L.flatten.toArray t (0, 0))) (hi : L[i]? = some B) (hk : (L.take i).flatten.length = k) (hB : B.length = cs.length)
    (h : ∀ w', w.grownBy w' (some b) → w'.heap[b]? = some (.cells (L.set i cs).flatten.toArray t (0, 0)) → wpList P ops Q rest a w') : wpList P ops Q (o :: rest) a w := by
  rw [flatten_split hi] at hb
  refine tl_store sv hgd ho hd hx hxv hy hyv ty hb hk hB fun w' g hb' => h w' g ?_
  rw [flatten_set hi]
  exact hb'
theorem tl_nil (h : Q .normal a w) : wpList P ops Q [] a w := h

/-! ## Control -/
theorem then_ret {K' : Act → World → Prop} (h : Q .ret a w) : Exit.then K' Q .ret a w := h
theorem then_exit {K' : Act → World → Prop} {j : Nat} (h : Q (.exit j) a w) : Exit.then K' Q (.exit j) a w := h
theorem cx_in {id : Nat} (h : Q .normal a w) : Exit.inBlock id Q (.exit id) a w := by
  show (if id = id then Q .normal a w else Q (.exit id) a w)
  rw [if_pos rfl]; exact h
theorem cx_if {c : Operand} {x y : Code} {b : Bool} (sv : Sv n D K a) (hx : okV K c = true) (hv : evV K c = .bool b) (h : (bif b then x else y).wp P Q a w) : (Code.cond c x y).wp P Q a w :=
  wp_cond (sv.ev hx hv) (by cases b <;> exact h)
theorem cx_ifT {c : Operand} {x y : Code} (sv : Sv n D K a) (hx : okV K c = true) (hv : evV K c = .bool true) (h : x.wp P Q a w) : (Code.cond c x y).wp P Q a w := wp_cond_true (sv.ev hx hv) h
theorem cx_ifF {c : Operand} {x y : Code} (sv : Sv n D K a) (hx : okV K c = true) (hv : evV K c = .bool false) (h : y.wp P Q a w) : (Code.cond c x y).wp P Q a w := wp_cond_false (sv.ev hx hv) h
theorem cx_block {id : Nat} {c : Code} (h : ∀ Q' : Exit → Act → World → Prop, (∀ a w, Q .normal a w → Q' (.exit id) a w) → (∀ a w, Q .normal a w → Q' .normal a w) → (∀ a w, Q .ret a w → Q' .ret a w) → (∀ j, Nat.beq j id = false → ∀ a w, Q (.exit j) a w → Q' (.exit j) a w) → c.wp P Q' a w) : (Code.block id c).wp P Q a w :=
  wp_block (h _ (fun _ _ h => cx_in h) (fun _ _ h => h) (fun _ _ h => h) (fun j hj a w h => by
    show (if j = id then Q .normal a w else Q (.exit j) a w)
    rw [if_neg (fun e => by subst e; rw [Nat.beq_refl] at hj; cases hj)]
    exact h))
theorem cx_out {K' : Act → World → Prop} {id : Nat} (h : Q (.exit id) a w) : (Code.exit id).wp P (Exit.then K' Q) a w := wp_exit h
/-- a function is entered -/
theorem cx_enter {f n : Nat} {fn : Func} {c : Code} {args : List Value} {R : Ending → World → Prop} (hf : P.funcs[f]? = some fn) (hb : fn.body = some c) (hn : fn.ntmps = n) (hl : decide (args.length ≤ n) = true)
    (h : ∀ a, Sv n [] ((List.range args.length).zip args) a → c.wp P (bodyPost P fn R) a w) : Calls P f args.toArray w R := by
  refine calls_of_wp hf hb (h _ ⟨?_, rfl, ?_⟩)
  · have := of_decide_eq_true hl
    simp [hn]; omega
  · have key : ∀ (l pre post : List Value), KnV ⟨(pre ++ l ++ post).toArray, []⟩ ((List.range' pre.length l.length).zip l) := by
      intro l
      induction l with
      | nil => intro pre post; exact trivial
      | cons x l ih =>
        intro pre post
        rw [List.length_cons, List.range'_succ]
        refine ⟨?_, ?_⟩
        · simp
        · have := ih (pre ++ [x]) post
          simpa [List.zip] using this
    have := key args [] (List.replicate (fn.ntmps - args.toArray.size) undef)
    rw [List.range_eq_range']
    have e : ((args.toArray ++ Array.replicate (fn.ntmps - args.toArray.size) undef) : Array Value) = ([] ++ args ++ List.replicate (fn.ntmps - args.toArray.size) undef).toArray := by
      apply Array.ext'; simp
    rw [e]; exact this
theorem cx_enterD {f n : Nat} {fn : Func} {c : Code} {args : List Value} {R : Ending → World → Prop} (hf : P.funcs[f]? = some fn) (hb : fn.body = some c) (hn : fn.ntmps = n) (hl : decide (args.length ≤ n) = true)
    (h : ∀ a, Sv n [] ((List.range args.length).zip args) a → c.wp P (bodyPostD P fn R) a w) : Calls P f args.toArray w R := by
  refine calls_of_wp_defers hf hb (h _ ⟨?_, rfl, ?_⟩)
  · have := of_decide_eq_true hl
    simp [hn]; omega
  · have key : ∀ (l pre post : List Value), KnV ⟨(pre ++ l ++ post).toArray, []⟩ ((List.range' pre.length l.length).zip l) := by
      intro l
      induction l with
      | nil => intro pre post; exact trivial
      | cons x l ih =>
        intro pre post
        rw [List.length_cons, List.range'_succ]
        refine ⟨?_, ?_⟩
        · simp
        · have := ih (pre ++ [x]) post
          simpa [List.zip] using this
    have := key args [] (List.replicate (fn.ntmps - args.toArray.size) undef)
    rw [List.range_eq_range']
    have e : ((args.toArray ++ Array.replicate (fn.ntmps - args.toArray.size) undef) : Array Value) = ([] ++ args ++ List.replicate (fn.ntmps - args.toArray.size) undef).toArray := by
      apply Array.ext'; simp
    rw [e]; exact this
/-- leaving: the results of a frame -/
theorem res_tmp {fn : Func} {p : Tmp} (hr : fn.results = #[.tmp p]) (sv : Sv n D K a) {v : Value} (hx : hasV K p = true) (hv : lkV K p = v) : (results fn a.tmps).run P w = .ok v w := by
  have e := sv.2.2.at hx
  rw [hv] at e
  have e' : a.tmps[p]?.getD undef = v := by rw [← e, Array.getD_eq_getD_getElem?]
  simp [results, hr, e']
theorem res_tmp2 {fn : Func} {p q : Tmp} (hr : fn.results = #[.tmp p, .tmp q]) (sv : Sv n D K a) {u v : Value} (hp : hasV K p = true) (hq : hasV K q = true) (hu : lkV K p = u) (hv : lkV K q = v) : (results fn a.tmps).run P w = .ok (.tuple #[u, v]) w := by
  have e1 := sv.2.2.at hp
  have e2 := sv.2.2.at hq
  rw [hu] at e1
  rw [hv] at e2
  have e1' : a.tmps[p]?.getD undef = u := by rw [← e1, Array.getD_eq_getD_getElem?]
  have e2' : a.tmps[q]?.getD undef = v := by rw [← e2, Array.getD_eq_getD_getElem?]
  simp [results, hr, e1', e2']
theorem res_cell {fn : Func} {p : Tmp} {T : TypeId} (hr : fn.results = #[.cell p T]) (sv : Sv n D K a) {b : Nat} {cs : List Value} {v : Value} {u : TypeId} {fr : Nat × Nat} (hx : hasV K p = true) (hp : lkV K p = .pointer (some ⟨b, 0, none⟩)) (t : TY P T cs v) (hb : w.heap[b]? = some (.cells cs.toArray u fr)) : (results fn a.tmps).run P w = .ok v w := by
  have e1 := sv.2.2.at hx
  rw [hp] at e1
  have e := t.load w b 0 (rangeAt_row hb)
  have e1' : a.tmps[p]?.getD undef = .pointer (some ⟨b, 0, none⟩) := by rw [← e1, Array.getD_eq_getD_getElem?]
  simp [results, hr, e1', asAddr, e]
theorem res_cell2 {fn : Func} {p q : Tmp} {T S : TypeId} (hr : fn.results = #[.cell p T, .cell q S]) (sv : Sv n D K a) {b c : Nat} {cs ds : List Value} {v u : Value} {t1 t2 : TypeId} {fr1 fr2 : Nat × Nat} (hx : hasV K p = true) (hp : lkV K p = .pointer (some ⟨b, 0, none⟩)) (hy : hasV K q = true) (hq : lkV K q = .pointer (some ⟨c, 0, none⟩))
    (t : TY P T cs v) (s : TY P S ds u) (hb : w.heap[b]? = some (.cells cs.toArray t1 fr1)) (hc : w.heap[c]? = some (.cells ds.toArray t2 fr2)) : (results fn a.tmps).run P w = .ok (.tuple #[v, u]) w := by
  have e1 := sv.2.2.at hx
  rw [hp] at e1
  have e2 := sv.2.2.at hy
  rw [hq] at e2
  have e := t.load w b 0 (rangeAt_row hb)
  have e3 := s.load w c 0 (rangeAt_row hc)
  have e1' : a.tmps[p]?.getD undef = .pointer (some ⟨b, 0, none⟩) := by rw [← e1, Array.getD_eq_getD_getElem?]
  have e2' : a.tmps[q]?.getD undef = .pointer (some ⟨c, 0, none⟩) := by rw [← e2, Array.getD_eq_getD_getElem?]
  simp [results, hr, e1', e2', asAddr, e, e3]
theorem cx_ret {fn : Func} {R : Ending → World → Prop} (sv : Sv n [] K a) {v : Value} (hr : (results fn a.tmps).run P w = .ok v w) (hR : R (.returned v) w) : bodyPost P fn R .ret a w := ⟨sv.2.1, v, hr, hR⟩
/-- leaving a function that defers one recovering function -/
theorem cx_retD {fn : Func} {R : Ending → World → Prop} {fv : Fn} {cap : Array Value} {f : Nat} {args : Array Value} (sv : Sv n [{ target := .fn fv cap, args := #[] }] K a) {v : Value} (hr : (results fn a.tmps).run P w = .ok v w)
    (hi : (invoke (.fn fv cap) #[]).run P w = .ok (.enter f args) w) (hc : CallsD P f args .returning w fun e u' w' => e = .returned (.tuple #[]) ∧ u' = .returning ∧ w' = w) (hR : R (.returned v) w) : Leaves P fn a.tmps R a.defers .returning w := by
  rw [sv.2.1]
  refine ⟨by simp, fv, cap, f, args, rfl, hi, fun c cs hu => ?_⟩
  obtain ⟨e, u', w', fr, ⟨rfl, rfl, rfl⟩, h2⟩ := hc c cs hu
  exact ⟨.returned (.tuple #[]), .returning, w', fr, ⟨v, hr, hR⟩, h2⟩
end
end Go.Proofs.Yteakoleceoclkaa
