import Derived.Test.YtkeiffccllfkpaaRdN22
import Derived.Test.YtkeiffccllfkpaaRdRS
set_option linter.unusedSimpArgs false
set_option linter.unusedVariables false
set_option maxRecDepth 100000
set_option maxHeartbeats 8000000
/- The law CodecReads: what all kinds share. (printed by gen_law15.py) -/
namespace Go.Proofs.Ytkeiffccllfkpaa
open Go.RowKit
set_option linter.unusedSimpArgs false
set_option linter.unusedVariables false
theorem Rel.err_of {α : Type} {p : Parser α} {l : List Nat} {x : α} {s : St} {e : Nat} (h : Rel p (.ok l) x s) (hp : p l = .error e) : s = .error e := by
 unfold Rel at h
 simp only [hp] at h
 exact h
theorem Rel.ok_of {α : Type} {p : Parser α} {l r : List Nat} {x y : α} {s : St} (h : Rel p (.ok l) x s) (hp : p l = .ok (y, r)) : y = x ∧ s = .ok r := by
 unfold Rel at h
 simp only [hp] at h
 exact h
theorem tyS3 {w : World} {v : Value} {m : Nat} {xs : List Value} (h : Sl w 1 v m xs) : TY Try.prog 22 [v] v := by
 obtain ⟨ao, cap, rfl, _⟩ := h.shape
 exact tyS _ _ _
theorem range1 {w : World} {R : Nat} {v : Value} (r0 : w.cell? ⟨R, 0, none⟩ = some v) : w.rangeAt R 0 [v] := fun j u hj => by
 cases j with
 | zero => simp at hj; subst hj; exact r0
 | succ j => simp at hj
theorem kept_row {L : Nat} {w w' : World} {row : Option Nat} {v : Value} {n sz : Nat} {cs : List Value} (h : Sl w sz v n cs) (hb : ∀ k, v.ownBlock = some k → L ≤ k) (g : w.grownBy w' row) (hr : ∀ k, row = some k → k < L) : Sl w' sz v n cs :=
 h.kept g (by cases hv : v.ownBlock with | none => exact .inl rfl | some k => exact .inr fun e => by have := hb k hv; have := hr k e.symm; omega)
theorem getD_set {l : Array Value} {t : Nat} (v : Value) (h : t < l.size) : (l.setIfInBounds t v).getD t undef = v := by
 rw [Array.getD_eq_getD_getElem?, Array.getElem?_setIfInBounds_self_of_lt h]
 rfl
theorem getD_setne {l : Array Value} {t u : Nat} (v : Value) (h : t ≠ u) : (l.setIfInBounds t v).getD u undef = l.getD u undef := by
 rw [Array.getD_eq_getD_getElem?, Array.getElem?_setIfInBounds_ne h, ← Array.getD_eq_getD_getElem?]
theorem wpList_under {P : Program} {ops : Array Oper} {l l' : List Oper} {o : Oper} {a : Act} {w : World} {Q : Exit → Act → World → Prop} (hw : Region.wanted o (yielded ops a.tmps) = true) {v : Value} (hr : (execOp a.eval o).run P w = .ok (.value v) w)
   (h : wpList P ops Q (o :: l') a w) (hk : wpList P ops Q l' (a.put o.dst v) w → wpList P ops Q l (a.put o.dst v) w) : wpList P ops Q (o :: l) a w := by
 unfold Go.wpList at h ⊢
 rw [if_pos hw] at h ⊢
 rcases h with h | h
 · left
   unfold Oper.wp at h ⊢
   rw [hr, Oper.upon_value] at h ⊢
   exact hk h
 · exact .inr h
theorem wpList_ofMove {P : Program} {ops : Array Oper} {l : List Oper} {d : Option Tmp} {v : Value} {ty : TypeId} {ps : String} {a : Act} {w : World} {Q : Exit → Act → World → Prop}
   (h : wpList P ops Q (⟨d, .move (.const v), ty, ps, #[], none⟩ :: l) a w) : wpList P ops Q l (a.put d v) w := by
 unfold Go.wpList at h
 rw [if_pos (show Region.wanted ⟨d, .move (.const v), ty, ps, #[], none⟩ (yielded ops a.tmps) = true from rfl)] at h
 rcases h with h | ⟨⟨h, _⟩, _⟩
 · unfold Oper.wp at h
   rw [show (execOp a.eval ⟨d, .move (.const v), ty, ps, #[], none⟩).run P w = .ok (.value v) w from rfl, Oper.upon_value] at h
   exact h
 · exact absurd (show noRoomEvent ∈ (#[] : Array Event) from h) (by simp)
theorem wpList_nml {P : Program} {ops : Array Oper} {rest l1 : List Oper} {o6 o7 : Oper} {a : Act} {w : World} {Q : Exit → Act → World → Prop} {d8 : Option Tmp} {ty8 : TypeId} {ps8 : String} {af8 : Array Edge} {T : TypeId} {x i7 : Nat} (hl1 : l1 = o7 :: ⟨d8, .load T (.tmp x), ty8, ps8, af8, some (i7, true)⟩ :: rest) (t6 t7 y : Nat)
   (b : BinOp) (ty : TypeId) (c vy : Value) (h6 : o6.op = .binOp b ty (.tmp y) (.const c) ty) (h7 : o7.op = .move (.tmp t6)) (d6 : o6.dst = some t6) (d7 : o7.dst = some t7)
   (hi : (ops[i7]?).bind (·.dst) = some t7) (g7 : o7.guard = o6.guard) (hgs : ∀ q, o6.guard = some q → (ops[q.1]?).bind (·.dst) ≠ some t6)
   (hw6 : Region.wanted o6 (yielded ops a.tmps) = true) (l6 : t6 < a.tmps.size) (l7 : t7 < a.tmps.size) (n6 : t6 ≠ x) (n7 : t7 ≠ x)
   (hy : a.tmps.getD y undef = vy) (hr : ∀ w, (do eqGuard b ty (.tmp y) (.const c) vy c; binOp b ty vy c : Sem Value).run P w = .ok (.bool true) w)
   {bl k : Nat} {cs : List Value} {v : Value} (hx : a.tmps.getD x undef = .pointer (some ⟨bl, k, none⟩)) (tt : TY P T cs v) (hrg : w.rangeAt bl k cs)
   (h : wpList P ops Q (o6 :: o7 :: ⟨d8, .move (.const v), ty8, ps8, #[], none⟩ :: rest) a w) : wpList P ops Q (o6 :: l1) a w := by
 subst hl1
 have r6 : (execOp a.eval o6).run P w = .ok (.value (.bool true)) w := by
   have := hr w
   simp only [execOp, h6, Act.eval, hy, Sem.run_bind] at this ⊢
   rw [this]
   rfl
 refine wpList_under hw6 r6 h ?_
 rw [d6]
 intro h
 have e6 : (a.put (some t6) (.bool true)).eval (.tmp t6) = .bool true := getD_set _ l6
 have hw7 : Region.wanted o7 (yielded ops (a.put (some t6) (.bool true)).tmps) = true := by
   unfold Region.wanted at hw6 ⊢
   rw [g7]
   cases hg : o6.guard with
   | none => rfl
   | some q =>
     obtain ⟨j, want⟩ := q
     rw [hg] at hw6
     have hne := hgs _ hg
     simp only [yielded] at hw6 ⊢
     cases hd : (ops[j]?).bind (·.dst) with
     | none => rw [hd] at hw6; simp at hw6
     | some t =>
       rw [hd] at hw6
       have hne' : t6 ≠ t := fun e => hne (by rw [hd, e])
       simp only [Option.bind_some, Act.put] at hw6 ⊢
       rw [Array.getElem?_setIfInBounds_ne hne']
       exact hw6
 refine wpList_under hw7 (v := .bool true) (by simp only [execOp, h7, e6]; rfl) h ?_
 rw [d7]
 intro h
 have h := wpList_ofMove h
 refine wpList_loadG ?_ T (.tmp x) rfl ?_ tt hrg h
 · unfold Region.wanted
   simp only [yielded, hi, Option.bind_some, Act.put]
   rw [Array.getElem?_setIfInBounds_self_of_lt (by simpa using l7)]
   rfl
 · show ((a.tmps.setIfInBounds t6 (.bool true)).setIfInBounds t7 (.bool true)).getD x undef = _
   rw [getD_setne _ n7, getD_setne _ n6, hx]
theorem wpList_nml2 {P : Program} {ops : Array Oper} {rest l1 : List Oper} {o6 o7 : Oper} {a : Act} {w : World} {Q : Exit → Act → World → Prop} {d8 : Tmp} {ty8 : TypeId} {ps8 : String} {af8 : Array Edge} {d9 : Option Tmp} {ty9 : TypeId} {ps9 : String} {af9 : Array Edge} {T : TypeId} {x x2 i7 : Nat} (hl1 : l1 = o7 :: ⟨some d8, .load T (.tmp x), ty8, ps8, af8, some (i7, true)⟩ :: ⟨d9, .load T (.tmp x2), ty9, ps9, af9, some (i7, true)⟩ :: rest) (t6 t7 y : Nat)
   (b : BinOp) (ty : TypeId) (c vy : Value) (h6 : o6.op = .binOp b ty (.tmp y) (.const c) ty) (h7 : o7.op = .move (.tmp t6)) (d6 : o6.dst = some t6) (d7 : o7.dst = some t7)
   (hi : (ops[i7]?).bind (·.dst) = some t7) (g7 : o7.guard = o6.guard) (hgs : ∀ q, o6.guard = some q → (ops[q.1]?).bind (·.dst) ≠ some t6)
   (hw6 : Region.wanted o6 (yielded ops a.tmps) = true) (l6 : t6 < a.tmps.size) (l7 : t7 < a.tmps.size) (n6 : t6 ≠ x) (n7 : t7 ≠ x) (m6 : t6 ≠ x2) (m7 : t7 ≠ x2) (m8 : d8 ≠ x2) (m9 : d8 ≠ t7)
   (hy : a.tmps.getD y undef = vy) (hr : ∀ w, (do eqGuard b ty (.tmp y) (.const c) vy c; binOp b ty vy c : Sem Value).run P w = .ok (.bool true) w)
   {bl k : Nat} {cs : List Value} {v : Value} (hx : a.tmps.getD x undef = .pointer (some ⟨bl, k, none⟩)) (tt : TY P T cs v) (hrg : w.rangeAt bl k cs)
   {bl2 k2 : Nat} {cs2 : List Value} {v2 : Value} (hx2 : a.tmps.getD x2 undef = .pointer (some ⟨bl2, k2, none⟩)) (tt2 : TY P T cs2 v2) (hrg2 : w.rangeAt bl2 k2 cs2)
   (h : wpList P ops Q (o6 :: o7 :: ⟨some d8, .move (.const v), ty8, ps8, #[], none⟩ :: ⟨d9, .move (.const v2), ty9, ps9, #[], none⟩ :: rest) a w) :
   wpList P ops Q (o6 :: l1) a w := by
 subst hl1
 have h1 := wpList_nml (T := T) (x := x) (i7 := i7) (af8 := af8) rfl t6 t7 y b ty c vy h6 h7 d6 d7 hi g7 hgs hw6 l6 l7 n6 n7 hy hr hx tt hrg h
 have r6 : (execOp a.eval o6).run P w = .ok (.value (.bool true)) w := by
   have := hr w
   simp only [execOp, h6, Act.eval, hy, Sem.run_bind] at this ⊢
   rw [this]
   rfl
 refine wpList_under hw6 r6 h1 ?_
 rw [d6]
 intro h
 have e6 : (a.put (some t6) (.bool true)).eval (.tmp t6) = .bool true := getD_set _ l6
 have hw7 : Region.wanted o7 (yielded ops (a.put (some t6) (.bool true)).tmps) = true := by
   unfold Region.wanted at hw6 ⊢
   rw [g7]
   cases hg : o6.guard with
   | none => rfl
   | some q =>
     obtain ⟨j, want⟩ := q
     rw [hg] at hw6
     have hne := hgs _ hg
     simp only [yielded] at hw6 ⊢
     cases hd : (ops[j]?).bind (·.dst) with
     | none => rw [hd] at hw6; simp at hw6
     | some t =>
       rw [hd] at hw6
       have hne' : t6 ≠ t := fun e => hne (by rw [hd, e])
       simp only [Option.bind_some, Act.put] at hw6 ⊢
       rw [Array.getElem?_setIfInBounds_ne hne']
       exact hw6
 refine wpList_under hw7 (v := .bool true) (by simp only [execOp, h7, e6]; rfl) h ?_
 rw [d7]
 intro h
 have hw8 : Region.wanted ⟨some d8, .load T (.tmp x), ty8, ps8, af8, some (i7, true)⟩ (yielded ops ((a.put (some t6) (.bool true)).put (some t7) (.bool true)).tmps) = true := by
   unfold Region.wanted
   simp only [yielded, hi, Option.bind_some, Act.put]
   rw [Array.getElem?_setIfInBounds_self_of_lt (by simpa using l7)]
   rfl
 have e8 : ((a.put (some t6) (.bool true)).put (some t7) (.bool true)).eval (.tmp x) = .pointer (some ⟨bl, k, none⟩) := by
   show ((a.tmps.setIfInBounds t6 (.bool true)).setIfInBounds t7 (.bool true)).getD x undef = _
   rw [getD_setne _ n7, getD_setne _ n6, hx]
 refine wpList_under hw8 (v := v) ?_ h ?_
 · have hl := tt.load w bl k hrg
   simp only [execOp, e8, Instr.loadAt, Instr.sureAddr, Sem.run_bind, Sem.run_pure, Result.andThen_ok, hl]
 · intro h
   have h := wpList_ofMove h
   refine wpList_loadG ?_ T (.tmp x2) rfl ?_ tt2 hrg2 h
   · unfold Region.wanted
     simp only [yielded, hi, Option.bind_some, Act.put]
     rw [Array.getElem?_setIfInBounds_ne m9, Array.getElem?_setIfInBounds_self_of_lt (by simpa using l7)]
     rfl
   · show (((a.tmps.setIfInBounds t6 (.bool true)).setIfInBounds t7 (.bool true)).setIfInBounds d8 v).getD x2 undef = _
     rw [getD_setne _ m8, getD_setne _ m7, getD_setne _ m6, hx2]
set_option linter.unusedVariables false
def c46p0 (ps0 : String) : Oper := { dst := some 383, op := Go.Op.move (Go.Operand.tmp 8), type := 4, pos := ps0, after := #[], guard := none }
def c46p1 (ps0 : String) : Oper := { dst := some 384, op := Go.Op.move (Go.Operand.tmp 383), type := 4, pos := ps0, after := #[{ on := 0, ground := Go.Ground.data }], guard := none }
def c46p2 (ps0 : String) : Oper := { dst := some 385, op := Go.Op.move (Go.Operand.tmp 7), type := 25, pos := ps0, after := #[{ on := 1, ground := Go.Ground.guard }], guard := some (1, true) }
def c46p3 (ps0 : String) : Oper := { dst := some 386, op := Go.Op.binOp Go.BinOp.eql 25 (Go.Operand.tmp 385) (Go.Operand.const (Go.Value.int Go.IntKind.i64 0)) 25, type := 4, pos := ps0, after := #[{ on := 2, ground := Go.Ground.data }, { on := 1, ground := Go.Ground.guard }], guard := some (1, true) }
def c46p4 (ps0 : String) : Oper := { dst := some 387, op := Go.Op.pick (Go.Operand.tmp 384) (Go.Operand.tmp 386) (Go.Operand.const (Go.Value.bool false)), type := 4, pos := ps0, after := #[{ on := 1, ground := Go.Ground.data }, { on := 3, ground := Go.Ground.data }], guard := none }
def c46p5 (ps0 : String) : Oper := { dst := some 388, op := Go.Op.move (Go.Operand.tmp 387), type := 4, pos := ps0, after := #[{ on := 4, ground := Go.Ground.data }, { on := 1, ground := Go.Ground.chain }], guard := none }
def c46p6 (ps0 : String) : Oper := { dst := some 389, op := Go.Op.move (Go.Operand.tmp 6), type := 22, pos := ps0, after := #[{ on := 5, ground := Go.Ground.guard }], guard := some (5, true) }
def c46p7 (ps0 : String) : Oper := { dst := some 390, op := Go.Op.convert 22 9 (Go.Operand.tmp 389), type := 9, pos := ps0, after := #[{ on := 6, ground := Go.Ground.data }, { on := 5, ground := Go.Ground.guard }], guard := some (5, true) }
def c46p8 (ps0 : String) : Oper := { dst := some 391, op := Go.Op.move (Go.Operand.tmp 5), type := 31, pos := ps0, after := #[{ on := 5, ground := Go.Ground.guard }], guard := some (5, true) }
def c46p9 (ps0 : String) : Oper := { dst := some 392, op := Go.Op.nilCheck (Go.Operand.tmp 391), type := 0, pos := ps0, after := #[{ on := 8, ground := Go.Ground.data }, { on := 5, ground := Go.Ground.guard }], guard := some (5, true) }
def c46p10 (ps0 : String) : Oper := { dst := some 393, op := Go.Op.fieldAddr 33 (Go.Operand.tmp 392) 0, type := 0, pos := ps0, after := #[{ on := 9, ground := Go.Ground.data }, { on := 5, ground := Go.Ground.guard }], guard := some (5, true) }
def c46p11 (ps0 : String) : Oper := { dst := some 394, op := Go.Op.load 22 (Go.Operand.tmp 393), type := 22, pos := ps0, after := #[{ on := 10, ground := Go.Ground.data }, { on := 5, ground := Go.Ground.guard }], guard := some (5, true) }
def c46p12 (ps0 : String) : Oper := { dst := some 395, op := Go.Op.convert 22 9 (Go.Operand.tmp 394), type := 9, pos := ps0, after := #[{ on := 11, ground := Go.Ground.data }, { on := 5, ground := Go.Ground.guard }], guard := some (5, true) }
def c46p13 (ps0 : String) : Oper := { dst := some 396, op := Go.Op.binOp Go.BinOp.eql 9 (Go.Operand.tmp 390) (Go.Operand.tmp 395) 9, type := 4, pos := ps0, after := #[{ on := 7, ground := Go.Ground.data }, { on := 12, ground := Go.Ground.data }, { on := 5, ground := Go.Ground.guard }], guard := some (5, true) }
def c46p14 (ps0 : String) : Oper := { dst := some 397, op := Go.Op.pick (Go.Operand.tmp 388) (Go.Operand.tmp 396) (Go.Operand.const (Go.Value.bool false)), type := 4, pos := ps0, after := #[{ on := 5, ground := Go.Ground.data }, { on := 13, ground := Go.Ground.data }], guard := none }
def c46p15 (ps0 : String) : Oper := { dst := some 398, op := Go.Op.move (Go.Operand.tmp 397), type := 4, pos := ps0, after := #[{ on := 14, ground := Go.Ground.data }, { on := 5, ground := Go.Ground.chain }], guard := none }
def c46p16 (ps0 : String) : Oper := { dst := some 399, op := Go.Op.call { callee := Go.Callee.value (Go.Operand.func 18), args := #[], argTypes := #[] }, type := 4, pos := ps0, after := #[{ on := 15, ground := Go.Ground.chain }, { on := 15, ground := Go.Ground.guard }], guard := some (15, true) }
def c46p17 (ps0 : String) : Oper := { dst := some 400, op := Go.Op.pick (Go.Operand.tmp 398) (Go.Operand.tmp 399) (Go.Operand.const (Go.Value.bool false)), type := 4, pos := ps0, after := #[{ on := 15, ground := Go.Ground.data }, { on := 16, ground := Go.Ground.data }], guard := none }
def c46p18 (ps0 : String) : Oper := { dst := some 4, op := Go.Op.assign (Go.Operand.tmp 400), type := 4, pos := ps0, after := #[{ on := 17, ground := Go.Ground.data }, { on := 16, ground := Go.Ground.chain }, { on := 0, ground := Go.Ground.phase }, { on := 1, ground := Go.Ground.phase }, { on := 2, ground := Go.Ground.phase }, { on := 3, ground := Go.Ground.phase }, { on := 4, ground := Go.Ground.phase }, { on := 5, ground := Go.Ground.phase }, { on := 6, ground := Go.Ground.phase }, { on := 7, ground := Go.Ground.phase }, { on := 8, ground := Go.Ground.phase }, { on := 9, ground := Go.Ground.phase }, { on := 10, ground := Go.Ground.phase }, { on := 11, ground := Go.Ground.phase }, { on := 12, ground := Go.Ground.phase }, { on := 13, ground := Go.Ground.phase }, { on := 14, ground := Go.Ground.phase }, { on := 15, ground := Go.Ground.phase }, { on := 16, ground := Go.Ground.phase }, { on := 17, ground := Go.Ground.phase }], guard := none }
def c46ops (ps0 : String) : List Oper := [c46p0 ps0, c46p1 ps0, c46p2 ps0, c46p3 ps0, c46p4 ps0, c46p5 ps0, c46p6 ps0, c46p7 ps0, c46p8 ps0, c46p9 ps0, c46p10 ps0, c46p11 ps0, c46p12 ps0, c46p13 ps0, c46p14 ps0, c46p15 ps0, c46p16 ps0, c46p17 ps0, c46p18 ps0]
def c46L (ys : List Nat) (R : Nat) : List Sp := [Sp.any, Sp.any, Sp.any, Sp.any, Sp.is (.bool true), Sp.is (.pointer (some ⟨R, 0, none⟩)), Sp.sl ys, Sp.is (.int .i64 0), Sp.is (.bool true), Sp.any, Sp.any, Sp.any, Sp.any, Sp.any, Sp.any, Sp.any, Sp.any, Sp.any, Sp.any, Sp.any, Sp.any, Sp.any, Sp.any, Sp.any, Sp.any, Sp.any, Sp.any, Sp.any, Sp.any, Sp.any, Sp.any, Sp.any, Sp.any, Sp.any, Sp.any, Sp.any, Sp.any, Sp.any, Sp.any, Sp.any, Sp.any, Sp.any, Sp.any, Sp.any, Sp.any, Sp.any, Sp.any, Sp.any, Sp.any, Sp.any, Sp.any, Sp.any, Sp.any, Sp.any, Sp.any, Sp.any, Sp.any, Sp.any, Sp.any, Sp.any, Sp.any, Sp.any, Sp.any, Sp.any, Sp.any, Sp.any, Sp.any, Sp.any, Sp.any, Sp.any, Sp.any, Sp.any, Sp.any, Sp.any, Sp.any, Sp.any, Sp.any, Sp.any, Sp.any, Sp.any, Sp.any, Sp.any, Sp.any, Sp.any, Sp.any, Sp.any, Sp.any, Sp.any, Sp.any, Sp.any, Sp.any, Sp.any, Sp.any, Sp.any, Sp.any, Sp.any, Sp.any, Sp.any, Sp.any, Sp.any, Sp.any, Sp.any, Sp.any, Sp.any, Sp.any, Sp.any, Sp.any, Sp.any, Sp.any, Sp.any, Sp.any, Sp.any, Sp.any, Sp.any, Sp.any, Sp.any, Sp.any, Sp.any, Sp.any, Sp.any, Sp.any, Sp.any, Sp.any, Sp.any, Sp.any, Sp.any, Sp.any, Sp.any, Sp.any, Sp.any, Sp.any, Sp.any, Sp.any, Sp.any, Sp.any, Sp.any, Sp.any, Sp.any, Sp.any, Sp.any, Sp.any, Sp.any, Sp.any, Sp.any, Sp.any, Sp.any, Sp.any, Sp.any, Sp.any, Sp.any, Sp.any, Sp.any, Sp.any, Sp.any, Sp.any, Sp.any, Sp.any, Sp.any, Sp.any, Sp.any, Sp.any, Sp.any, Sp.any, Sp.any, Sp.any, Sp.any, Sp.any, Sp.any, Sp.any, Sp.any, Sp.any, Sp.any, Sp.any, Sp.any, Sp.any, Sp.any, Sp.any, Sp.any, Sp.any, Sp.any, Sp.any, Sp.any, Sp.any, Sp.any, Sp.any, Sp.any, Sp.any, Sp.any, Sp.any, Sp.any, Sp.any, Sp.any, Sp.any, Sp.any, Sp.any, Sp.any, Sp.any, Sp.any, Sp.any, Sp.any, Sp.any, Sp.any, Sp.any, Sp.any, Sp.any, Sp.any, Sp.any, Sp.any, Sp.any, Sp.any, Sp.any, Sp.any, Sp.any, Sp.any, Sp.any, Sp.any, Sp.any, Sp.any, Sp.any, Sp.any, Sp.any, Sp.any, Sp.any, Sp.any, Sp.any, Sp.any, Sp.any, Sp.any, Sp.any, Sp.any, Sp.any, Sp.any, Sp.any, Sp.any, Sp.any, Sp.any, Sp.any, Sp.any, Sp.any, Sp.any, Sp.any, Sp.any, Sp.any, Sp.any, Sp.any, Sp.any, Sp.any, Sp.any, Sp.any, Sp.any, Sp.any, Sp.any, Sp.any, Sp.any, Sp.any, Sp.any, Sp.any, Sp.any, Sp.any, Sp.any, Sp.any, Sp.any, Sp.any, Sp.any, Sp.any, Sp.any, Sp.any, Sp.any, Sp.any, Sp.any, Sp.any, Sp.any, Sp.any, Sp.any, Sp.any, Sp.any, Sp.any, Sp.any, Sp.any, Sp.any, Sp.any, Sp.any, Sp.any, Sp.any, Sp.any, Sp.any, Sp.any, Sp.any, Sp.any, Sp.any, Sp.any, Sp.any, Sp.any, Sp.any, Sp.any, Sp.any, Sp.any, Sp.any, Sp.any, Sp.any, Sp.any, Sp.any, Sp.any, Sp.any, Sp.any, Sp.any, Sp.any, Sp.any, Sp.any, Sp.any, Sp.any, Sp.any, Sp.any, Sp.any, Sp.any, Sp.any, Sp.any, Sp.any, Sp.any, Sp.any, Sp.any, Sp.any, Sp.any, Sp.any, Sp.any, Sp.any, Sp.any, Sp.any, Sp.any, Sp.any, Sp.any, Sp.any, Sp.any, Sp.any, Sp.any, Sp.any, Sp.any, Sp.any, Sp.any, Sp.any, Sp.any, Sp.any, Sp.any, Sp.any, Sp.any, Sp.any, Sp.any, Sp.any, Sp.any, Sp.any, Sp.any, Sp.any, Sp.any, Sp.any, Sp.any, Sp.any, Sp.any, Sp.any, Sp.any, Sp.any, Sp.any, Sp.any, Sp.any, Sp.any, Sp.any, Sp.any, Sp.any, Sp.any, Sp.any, Sp.any, Sp.any, Sp.any, Sp.any, Sp.any, Sp.any, Sp.any, Sp.any, Sp.any, Sp.any, Sp.any, Sp.any, Sp.any, Sp.any, Sp.is (.bool true), Sp.is (.bool true), Sp.is (.int .i64 0), Sp.is (.bool true), Sp.is (.bool true), Sp.is (.bool true), Sp.sl ys, Sp.is (.string (bs ys)), Sp.is (.pointer (some ⟨R, 0, none⟩)), Sp.is (.pointer (some ⟨R, 0, none⟩)), Sp.is (.pointer (some ⟨R, 0, none⟩)), Sp.sl ys, Sp.is (.string (bs ys)), Sp.is (.bool true), Sp.is (.bool true), Sp.is (.bool true), Sp.is (.bool true), Sp.is (.bool true)]
theorem c46_reg (ps0 : String) : regB (c46ops ps0).toArray 401 = true := by kernel_rfl
theorem c46_m (ps0 : String) : dstsB (c46ops ps0) 401 = [false, false, false, false, true, false, false, false, false, false, false, false, false, false, false, false, false, false, false, false, false, false, false, false, false, false, false, false, false, false, false, false, false, false, false, false, false, false, false, false, false, false, false, false, false, false, false, false, false, false, false, false, false, false, false, false, false, false, false, false, false, false, false, false, false, false, false, false, false, false, false, false, false, false, false, false, false, false, false, false, false, false, false, false, false, false, false, false, false, false, false, false, false, false, false, false, false, false, false, false, false, false, false, false, false, false, false, false, false, false, false, false, false, false, false, false, false, false, false, false, false, false, false, false, false, false, false, false, false, false, false, false, false, false, false, false, false, false, false, false, false, false, false, false, false, false, false, false, false, false, false, false, false, false, false, false, false, false, false, false, false, false, false, false, false, false, false, false, false, false, false, false, false, false, false, false, false, false, false, false, false, false, false, false, false, false, false, false, false, false, false, false, false, false, false, false, false, false, false, false, false, false, false, false, false, false, false, false, false, false, false, false, false, false, false, false, false, false, false, false, false, false, false, false, false, false, false, false, false, false, false, false, false, false, false, false, false, false, false, false, false, false, false, false, false, false, false, false, false, false, false, false, false, false, false, false, false, false, false, false, false, false, false, false, false, false, false, false, false, false, false, false, false, false, false, false, false, false, false, false, false, false, false, false, false, false, false, false, false, false, false, false, false, false, false, false, false, false, false, false, false, false, false, false, false, false, false, false, false, false, false, false, false, false, false, false, false, false, false, false, false, false, false, false, false, false, false, false, false, false, false, false, false, false, false, false, false, false, false, false, false, false, false, false, false, false, false, false, false, false, false, false, false, false, false, false, false, false, false, false, false, false, false, false, false, false, false, false, false, false, false, false, false, false, false, false, false, false, false, false, false, false, false, true, true, true, true, true, true, true, true, true, true, true, true, true, true, true, true, true, true] := by kernel_rfl
theorem c46_o0 (ps0 : String) (ys : List Nat) (R : Nat) (w0 : World) (v3 : Value) (hs : Sl w0 1 v3 ys.length (bv ys)) (hc : w0.rangeAt R 0 [v3]) : Ob Try.prog (c46ops ps0).toArray (c46L ys R) 401 w0 (c46p0 ps0) := ob_move 8 383 rfl rfl (by decide) trivial (fun _ _ h => h)
theorem c46_o1 (ps0 : String) (ys : List Nat) (R : Nat) (w0 : World) (v3 : Value) (hs : Sl w0 1 v3 ys.length (bv ys)) (hc : w0.rangeAt R 0 [v3]) : Ob Try.prog (c46ops ps0).toArray (c46L ys R) 401 w0 (c46p1 ps0) := ob_move 383 384 rfl rfl (by decide) trivial (fun _ _ h => h)
theorem c46_o2 (ps0 : String) (ys : List Nat) (R : Nat) (w0 : World) (v3 : Value) (hs : Sl w0 1 v3 ys.length (bv ys)) (hc : w0.rangeAt R 0 [v3]) : Ob Try.prog (c46ops ps0).toArray (c46L ys R) 401 w0 (c46p2 ps0) := ob_move 7 385 rfl rfl (by decide) ⟨384, rfl, by decide, fun _ _ h => h⟩ (fun _ _ h => h)
theorem c46_o3 (ps0 : String) (ys : List Nat) (R : Nat) (w0 : World) (v3 : Value) (hs : Sl w0 1 v3 ys.length (bv ys)) (hc : w0.rangeAt R 0 [v3]) : Ob Try.prog (c46ops ps0).toArray (c46L ys R) 401 w0 (c46p3 ps0) := ob_eqI rfl rfl ⟨384, rfl, by decide, fun _ _ h => h⟩ ⟨by decide, fun _ _ h => h⟩ rfl rfl (fun _ => rfl)
theorem c46_o4 (ps0 : String) (ys : List Nat) (R : Nat) (w0 : World) (v3 : Value) (hs : Sl w0 1 v3 ys.length (bv ys)) (hc : w0.rangeAt R 0 [v3]) : Ob Try.prog (c46ops ps0).toArray (c46L ys R) 401 w0 (c46p4 ps0) := ob_pick rfl rfl trivial ⟨by decide, fun _ _ h => h⟩ ⟨by decide, fun _ _ h => h⟩ (fun _ => rfl)
theorem c46_o5 (ps0 : String) (ys : List Nat) (R : Nat) (w0 : World) (v3 : Value) (hs : Sl w0 1 v3 ys.length (bv ys)) (hc : w0.rangeAt R 0 [v3]) : Ob Try.prog (c46ops ps0).toArray (c46L ys R) 401 w0 (c46p5 ps0) := ob_move 387 388 rfl rfl (by decide) trivial (fun _ _ h => h)
theorem c46_o6 (ps0 : String) (ys : List Nat) (R : Nat) (w0 : World) (v3 : Value) (hs : Sl w0 1 v3 ys.length (bv ys)) (hc : w0.rangeAt R 0 [v3]) : Ob Try.prog (c46ops ps0).toArray (c46L ys R) 401 w0 (c46p6 ps0) := ob_move 6 389 rfl rfl (by decide) ⟨388, rfl, by decide, fun _ _ h => h⟩ (fun _ _ h => h)
theorem c46_o7 (ps0 : String) (ys : List Nat) (R : Nat) (w0 : World) (v3 : Value) (hs : Sl w0 1 v3 ys.length (bv ys)) (hc : w0.rangeAt R 0 [v3]) : Ob Try.prog (c46ops ps0).toArray (c46L ys R) 401 w0 (c46p7 ps0) := ob_conv 389 390 22 9 5 Try.underlying22 Try.underlying5 Try.underlying9 ys rfl rfl (by decide) ⟨388, rfl, by decide, fun _ _ h => h⟩ (fun _ _ _ h => h) (fun _ => rfl)
theorem c46_o8 (ps0 : String) (ys : List Nat) (R : Nat) (w0 : World) (v3 : Value) (hs : Sl w0 1 v3 ys.length (bv ys)) (hc : w0.rangeAt R 0 [v3]) : Ob Try.prog (c46ops ps0).toArray (c46L ys R) 401 w0 (c46p8 ps0) := ob_move 5 391 rfl rfl (by decide) ⟨388, rfl, by decide, fun _ _ h => h⟩ (fun _ _ h => h)
theorem c46_o9 (ps0 : String) (ys : List Nat) (R : Nat) (w0 : World) (v3 : Value) (hs : Sl w0 1 v3 ys.length (bv ys)) (hc : w0.rangeAt R 0 [v3]) : Ob Try.prog (c46ops ps0).toArray (c46L ys R) 401 w0 (c46p9 ps0) := ob_nilCheck rfl rfl ⟨388, rfl, by decide, fun _ _ h => h⟩ ⟨by decide, fun _ _ h => h⟩ (fun _ => rfl)
theorem c46_o10 (ps0 : String) (ys : List Nat) (R : Nat) (w0 : World) (v3 : Value) (hs : Sl w0 1 v3 ys.length (bv ys)) (hc : w0.rangeAt R 0 [v3]) : Ob Try.prog (c46ops ps0).toArray (c46L ys R) 401 w0 (c46p10 ps0) := ob_fieldAddr rfl rfl ⟨388, rfl, by decide, fun _ _ h => h⟩ ⟨by decide, fun _ _ h => h⟩ (fun w => by go_simp) (fun _ => rfl)
theorem c46_o11 (ps0 : String) (ys : List Nat) (R : Nat) (w0 : World) (v3 : Value) (hs : Sl w0 1 v3 ys.length (bv ys)) (hc : w0.rangeAt R 0 [v3]) : Ob Try.prog (c46ops ps0).toArray (c46L ys R) 401 w0 (c46p11 ps0) := ob_load rfl rfl ⟨388, rfl, by decide, fun _ _ h => h⟩ ⟨by decide, fun _ _ h => h⟩ (tyS3 hs) hc (fun w hw => hs.kept hw (by cases v3.ownBlock <;> simp))
theorem c46_o12 (ps0 : String) (ys : List Nat) (R : Nat) (w0 : World) (v3 : Value) (hs : Sl w0 1 v3 ys.length (bv ys)) (hc : w0.rangeAt R 0 [v3]) : Ob Try.prog (c46ops ps0).toArray (c46L ys R) 401 w0 (c46p12 ps0) := ob_conv 394 395 22 9 5 Try.underlying22 Try.underlying5 Try.underlying9 ys rfl rfl (by decide) ⟨388, rfl, by decide, fun _ _ h => h⟩ (fun _ _ _ h => h) (fun _ => rfl)
theorem c46_o13 (ps0 : String) (ys : List Nat) (R : Nat) (w0 : World) (v3 : Value) (hs : Sl w0 1 v3 ys.length (bv ys)) (hc : w0.rangeAt R 0 [v3]) : Ob Try.prog (c46ops ps0).toArray (c46L ys R) 401 w0 (c46p13 ps0) := ob_eqS rfl rfl ⟨388, rfl, by decide, fun _ _ h => h⟩ ⟨by decide, fun _ _ h => h⟩ ⟨by decide, fun _ _ h => h⟩ rfl (fun _ => rfl)
theorem c46_o14 (ps0 : String) (ys : List Nat) (R : Nat) (w0 : World) (v3 : Value) (hs : Sl w0 1 v3 ys.length (bv ys)) (hc : w0.rangeAt R 0 [v3]) : Ob Try.prog (c46ops ps0).toArray (c46L ys R) 401 w0 (c46p14 ps0) := ob_pick rfl rfl trivial ⟨by decide, fun _ _ h => h⟩ ⟨by decide, fun _ _ h => h⟩ (fun _ => rfl)
theorem c46_o15 (ps0 : String) (ys : List Nat) (R : Nat) (w0 : World) (v3 : Value) (hs : Sl w0 1 v3 ys.length (bv ys)) (hc : w0.rangeAt R 0 [v3]) : Ob Try.prog (c46ops ps0).toArray (c46L ys R) 401 w0 (c46p15 ps0) := ob_move 397 398 rfl rfl (by decide) trivial (fun _ _ h => h)
theorem c46_o16 (ps0 : String) (ys : List Nat) (R : Nat) (w0 : World) (v3 : Value) (hs : Sl w0 1 v3 ys.length (bv ys)) (hc : w0.rangeAt R 0 [v3]) : Ob Try.prog (c46ops ps0).toArray (c46L ys R) 401 w0 (c46p16 ps0) := ob_call2 [] rfl rfl ⟨398, rfl, by decide, fun _ _ h => h⟩ trivial (fun w hw => (awake_walk w).mono fun e w1 ⟨he, hg⟩ => ⟨_, he, hg, rfl⟩) (enter_of Try.func18 (by kernel_rfl) rfl)
theorem c46_o17 (ps0 : String) (ys : List Nat) (R : Nat) (w0 : World) (v3 : Value) (hs : Sl w0 1 v3 ys.length (bv ys)) (hc : w0.rangeAt R 0 [v3]) : Ob Try.prog (c46ops ps0).toArray (c46L ys R) 401 w0 (c46p17 ps0) := ob_pick rfl rfl trivial ⟨by decide, fun _ _ h => h⟩ ⟨by decide, fun _ _ h => h⟩ (fun _ => rfl)
theorem c46_o18 (ps0 : String) (ys : List Nat) (R : Nat) (w0 : World) (v3 : Value) (hs : Sl w0 1 v3 ys.length (bv ys)) (hc : w0.rangeAt R 0 [v3]) : Ob Try.prog (c46ops ps0).toArray (c46L ys R) 401 w0 (c46p18 ps0) := ob_assign 400 4 rfl rfl (by decide) trivial (fun _ _ h => h)
theorem c46_ob (ps0 : String) (ys : List Nat) (R : Nat) (w0 : World) (v3 : Value) (hs : Sl w0 1 v3 ys.length (bv ys)) (hc : w0.rangeAt R 0 [v3]) : ObAll Try.prog (c46ops ps0).toArray (c46L ys R) 401 w0 (c46ops ps0) := ⟨c46_o0 ps0 ys R w0 v3 hs hc, c46_o1 ps0 ys R w0 v3 hs hc, c46_o2 ps0 ys R w0 v3 hs hc, c46_o3 ps0 ys R w0 v3 hs hc, c46_o4 ps0 ys R w0 v3 hs hc, c46_o5 ps0 ys R w0 v3 hs hc, c46_o6 ps0 ys R w0 v3 hs hc, c46_o7 ps0 ys R w0 v3 hs hc, c46_o8 ps0 ys R w0 v3 hs hc, c46_o9 ps0 ys R w0 v3 hs hc, c46_o10 ps0 ys R w0 v3 hs hc, c46_o11 ps0 ys R w0 v3 hs hc, c46_o12 ps0 ys R w0 v3 hs hc, c46_o13 ps0 ys R w0 v3 hs hc, c46_o14 ps0 ys R w0 v3 hs hc, c46_o15 ps0 ys R w0 v3 hs hc, c46_o16 ps0 ys R w0 v3 hs hc, c46_o17 ps0 ys R w0 v3 hs hc, c46_o18 ps0 ys R w0 v3 hs hc, trivial⟩
end Go.Proofs.Ytkeiffccllfkpaa
/- The law CodecReads at values. (printed by gen_law15.py) -/
namespace Go.Proofs.Ytkeiffccllfkpaa
open Go.RowKit
set_option linter.unusedSimpArgs false
set_option linter.unusedVariables false
theorem reads0 (b : Value) (xs : List Nat) (kind : Int) (w : World) (hb : Sl w 1 b xs.length (bv xs)) (hbl : Lo b w.heap.size) (hx : ∀ x ∈ xs, x < 256) (h200 : ¬ 200 < xs.length) (hk : bits .and .i64 kind 7 = 0) :
   Calls Try.prog 15 #[b, .int .i64 kind] w fun e w' => e = .returned (.bool true) ∧ w.grownBy w' none := by
 obtain ⟨ao, cap, rfl, hnc, hcm⟩ := hb.shape
 have HB := hid hb
 have HL := hid hbl
 have HX := hid hx
 have HLEN := hid h200
 clear hb hbl hx
 have d1 : decide (200 < xs.length) = false := decide_eq_false h200
 go_enter Try.func15, Try.ntmps15
 go_wp2_with fail
 have ga := World.grownBy_alloc w (.cells #[.slice ao xs.length cap, .int .i64 0] 33) none
 refine (rdxValue_walk (.slice ao xs.length cap) xs _ (HB.out.kn ga) (by have := HLEN.out; omega) HX.out (HL.out.mono ga.size)).mono ?_
 intro e w1 h4
 have g1 := h4.1
 have hst : RSt 33 w.heap.size w1 w.heap.size (.ok xs) :=
   ⟨_, xs, ⟨rfl, row_of g1 (heap_at rfl) (by simp)⟩, HB.out.kn (grown_trans ga g1), ⟨HL.out, Nat.le_refl _⟩, HX.out, by have := HLEN.out; omega⟩
 have hs1 : w.heap.size < w1.heap.size := by have := g1.size; simp at this; omega
 have HST := hid hst
 have G1 := hid (grown_trans ga g1)
 clear hst g1 ga
 cases hp : pV xs with
 | error n =>
   unfold ReadPost at h4
   rw [hp] at h4
   obtain ⟨_, rfl, hne⟩ := h4
   have HP := hid hp
   clear hp
   go_wp2_with fail
   have gz := World.grownBy_alloc w1 (.cells #[.int .i64 0, .int .i64 0, .string ⟨#[]⟩] 67) none
   refine (rval_read _ _ _ (HST.out.kept gz)).mono ?_
   rintro e w2 ⟨v2, y, s2, rfl, rfl, hg2, hst2, hrel⟩
   obtain rfl := hrel.err_of HP.out
   obtain ⟨v3, l3, ⟨he, he2, hrow⟩, _⟩ := hst2
   obtain ⟨yk, yn, yt⟩ := y
   have be : ((n : Int) != 0) = true := by simp; omega
   have be' : ((n : Int) == 0) = false := by simp; omega
   have hbx := row_of hg2 (heap_at (w := w1) (o := .cells #[.int .i64 0, .int .i64 0, .string ⟨#[]⟩] 67) rfl) (by simp; omega)
   have hsz2 : w1.heap.size + 1 ≤ w2.heap.size := by have := hg2.size; simpa using this
   have a0 := World.grownBy_alloc w2 (.cells #[.int .i64 yk, .int .i64 yn, .string yt] 67) none
   have hrow2 := row_of a0 hrow (by simp)
   obtain ⟨r0, r1, r2, r3⟩ := row2 hrow2
   have a1 := (fun j => cell_of_row _ _ j _ _ _ (row_of a0 hbx (by simp)))
   have a2 := (fun j => frozen_of_row _ _ j _ _ (row_of a0 hbx (by simp)))
   have hby := heap_at (w := w2) (o := .cells #[.int .i64 yk, .int .i64 yn, .string yt] 67) rfl
   have b1 := (fun j => cell_of_row _ _ j _ _ _ hby)
   have b2 := (fun j => frozen_of_row _ _ j _ _ hby)
   have HG2 := hid (grown_newR G1.out (grown_trans (grown_none gz) hg2) (Nat.le_refl _))
   have HA0 := hid a0
   clear hrel he he2 hrow hg2 hne hrow2 hbx hby gz a0
   rw [show vval ⟨yk, yn, yt⟩ = .agg #[.int .i64 yk, .int .i64 yn, .string yt] from rfl]
   go_wp2_with fail
   generalize w2.alloc (.cells #[.int .i64 yk, .int .i64 yn, .string yt] 67) = W at *
   go_region
   go_wp2_with (go_at_call 18; refine (awake_walk _).mono ?_; rintro e w' ⟨rfl, hg⟩)
   go_ret
   exact ⟨rfl, grown_trans (grown_trans (grown_trans HG2.out HA0.out) (grown_drew W)) hg⟩
 | ok p =>
   obtain ⟨x, ys⟩ := p
   unfold ReadPost at h4
   rw [hp] at h4
   obtain ⟨_, v, rv, rfl, hrep, hrest, hrlo⟩ := h4
   have RLO := hid (show ∀ k, rv.ownBlock = some k → w.heap.size + 1 ≤ k from fun k hk => by have := hrlo k hk; simpa using this)
   obtain ⟨ao3, cap3, rfl, _, _⟩ := hrest.shape
   obtain rfl := hrep
   obtain ⟨xk, xn, xt⟩ := x
   have HP := hid hp
   have HRT := hid hrest
   clear hp hrest hrlo
   rw [show vval ⟨xk, xn, xt⟩ = .agg #[.int .i64 xk, .int .i64 xn, .string xt] from rfl]
   go_wp2_with fail
   have gz := World.grownBy_alloc w1 (.cells #[.int .i64 xk, .int .i64 xn, .string xt] 67) none
   refine (rval_read _ _ _ (HST.out.kept gz)).mono ?_
   rintro e w2 ⟨v2, y, s2, rfl, rfl, hg2, hst2, hrel⟩
   obtain ⟨rfl, rfl⟩ := hrel.ok_of HP.out
   obtain ⟨v3, l3, ⟨rfl, hrow⟩, hs3, _⟩ := hst2
   have hbx := row_of hg2 (heap_at (w := w1) (o := .cells #[.int .i64 xk, .int .i64 xn, .string xt] 67) rfl) (by simp; omega)
   have hsz2 : w1.heap.size + 1 ≤ w2.heap.size := by have := hg2.size; simpa using this
   have a0 := World.grownBy_alloc w2 (.cells #[.int .i64 xk, .int .i64 xn, .string xt] 67) none
   have hrow2 := row_of a0 hrow (by simp)
   obtain ⟨r0, r1, r2, r3⟩ := row2 hrow2
   have a1 := (fun j => cell_of_row _ _ j _ _ _ (row_of a0 hbx (by simp)))
   have a2 := (fun j => frozen_of_row _ _ j _ _ (row_of a0 hbx (by simp)))
   have hby := heap_at (w := w2) (o := .cells #[.int .i64 xk, .int .i64 xn, .string xt] 67) rfl
   have b1 := (fun j => cell_of_row _ _ j _ _ _ hby)
   have b2 := (fun j => frozen_of_row _ _ j _ _ hby)
   have HGR := hid (grown_trans (grown_none (row := some w.heap.size) gz) hg2)
   have HG2 := hid (grown_newR G1.out (grown_trans (grown_none gz) hg2) (Nat.le_refl _))
   have HA0 := hid a0
   have H32 := hid hs3
   clear hrel hrow hg2 hrow2 hbx hby gz a0 hs3
   rw [show vval ⟨xk, xn, xt⟩ = .agg #[.int .i64 xk, .int .i64 xn, .string xt] from rfl]
   go_wp2_with fail
   generalize w2.alloc (.cells #[.int .i64 xk, .int .i64 xn, .string xt] 67) = W at *
   go_region
   have H3 := hid (H32.out.kn (grown_trans HA0.out (grown_drew W)))
   have p0 : W.drew.cell? ⟨w.heap.size, 0, none⟩ = some v3 := r0
   go_wp2
   have hrest := HRT.out.kept (grown_trans HGR.out (grown_none (grown_trans HA0.out (grown_drew W)))) (.inr fun e => by have := RLO.out _ e; omega)
   refine region_list mixed (c46L ys w.heap.size) _ (c46_reg _) (c46_m _) rfl ⟨.inr trivial, .inr trivial, .inr trivial, .inr trivial, .inl rfl, .inr rfl, .inr hrest, .inr rfl, .inr rfl, .inr trivial, .inr trivial, .inr trivial, .inr trivial, .inr trivial, .inr trivial, .inr trivial, .inr trivial, .inr trivial, .inr trivial, .inr trivial, .inr trivial, .inr trivial, .inr trivial, .inr trivial, .inr trivial, .inr trivial, .inr trivial, .inr trivial, .inr trivial, .inr trivial, .inr trivial, .inr trivial, .inr trivial, .inr trivial, .inr trivial, .inr trivial, .inr trivial, .inr trivial, .inr trivial, .inr trivial, .inr trivial, .inr trivial, .inr trivial, .inr trivial, .inr trivial, .inr trivial, .inr trivial, .inr trivial, .inr trivial, .inr trivial, .inr trivial, .inr trivial, .inr trivial, .inr trivial, .inr trivial, .inr trivial, .inr trivial, .inr trivial, .inr trivial, .inr trivial, .inr trivial, .inr trivial, .inr trivial, .inr trivial, .inr trivial, .inr trivial, .inr trivial, .inr trivial, .inr trivial, .inr trivial, .inr trivial, .inr trivial, .inr trivial, .inr trivial, .inr trivial, .inr trivial, .inr trivial, .inr trivial, .inr trivial, .inr trivial, .inr trivial, .inr trivial, .inr trivial, .inr trivial, .inr trivial, .inr trivial, .inr trivial, .inr trivial, .inr trivial, .inr trivial, .inr trivial, .inr trivial, .inr trivial, .inr trivial, .inr trivial, .inr trivial, .inr trivial, .inr trivial, .inr trivial, .inr trivial, .inr trivial, .inr trivial, .inr trivial, .inr trivial, .inr trivial, .inr trivial, .inr trivial, .inr trivial, .inr trivial, .inr trivial, .inr trivial, .inr trivial, .inr trivial, .inr trivial, .inr trivial, .inr trivial, .inr trivial, .inr trivial, .inr trivial, .inr trivial, .inr trivial, .inr trivial, .inr trivial, .inr trivial, .inr trivial, .inr trivial, .inr trivial, .inr trivial, .inr trivial, .inr trivial, .inr trivial, .inr trivial, .inr trivial, .inr trivial, .inr trivial, .inr trivial, .inr trivial, .inr trivial, .inr trivial, .inr trivial, .inr trivial, .inr trivial, .inr trivial, .inr trivial, .inr trivial, .inr trivial, .inr trivial, .inr trivial, .inr trivial, .inr trivial, .inr trivial, .inr trivial, .inr trivial, .inr trivial, .inr trivial, .inr trivial, .inr trivial, .inr trivial, .inr trivial, .inr trivial, .inr trivial, .inr trivial, .inr trivial, .inr trivial, .inr trivial, .inr trivial, .inr trivial, .inr trivial, .inr trivial, .inr trivial, .inr trivial, .inr trivial, .inr trivial, .inr trivial, .inr trivial, .inr trivial, .inr trivial, .inr trivial, .inr trivial, .inr trivial, .inr trivial, .inr trivial, .inr trivial, .inr trivial, .inr trivial, .inr trivial, .inr trivial, .inr trivial, .inr trivial, .inr trivial, .inr trivial, .inr trivial, .inr trivial, .inr trivial, .inr trivial, .inr trivial, .inr trivial, .inr trivial, .inr trivial, .inr trivial, .inr trivial, .inr trivial, .inr trivial, .inr trivial, .inr trivial, .inr trivial, .inr trivial, .inr trivial, .inr trivial, .inr trivial, .inr trivial, .inr trivial, .inr trivial, .inr trivial, .inr trivial, .inr trivial, .inr trivial, .inr trivial, .inr trivial, .inr trivial, .inr trivial, .inr trivial, .inr trivial, .inr trivial, .inr trivial, .inr trivial, .inr trivial, .inr trivial, .inr trivial, .inr trivial, .inr trivial, .inr trivial, .inr trivial, .inr trivial, .inr trivial, .inr trivial, .inr trivial, .inr trivial, .inr trivial, .inr trivial, .inr trivial, .inr trivial, .inr trivial, .inr trivial, .inr trivial, .inr trivial, .inr trivial, .inr trivial, .inr trivial, .inr trivial, .inr trivial, .inr trivial, .inr trivial, .inr trivial, .inr trivial, .inr trivial, .inr trivial, .inr trivial, .inr trivial, .inr trivial, .inr trivial, .inr trivial, .inr trivial, .inr trivial, .inr trivial, .inr trivial, .inr trivial, .inr trivial, .inr trivial, .inr trivial, .inr trivial, .inr trivial, .inr trivial, .inr trivial, .inr trivial, .inr trivial, .inr trivial, .inr trivial, .inr trivial, .inr trivial, .inr trivial, .inr trivial, .inr trivial, .inr trivial, .inr trivial, .inr trivial, .inr trivial, .inr trivial, .inr trivial, .inr trivial, .inr trivial, .inr trivial, .inr trivial, .inr trivial, .inr trivial, .inr trivial, .inr trivial, .inr trivial, .inr trivial, .inr trivial, .inr trivial, .inr trivial, .inr trivial, .inr trivial, .inr trivial, .inr trivial, .inr trivial, .inr trivial, .inr trivial, .inr trivial, .inr trivial, .inr trivial, .inr trivial, .inr trivial, .inr trivial, .inr trivial, .inr trivial, .inr trivial, .inr trivial, .inr trivial, .inr trivial, .inr trivial, .inr trivial, .inr trivial, .inr trivial, .inr trivial, .inr trivial, .inr trivial, .inr trivial, .inr trivial, .inr trivial, .inr trivial, .inr trivial, .inr trivial, .inr trivial, .inr trivial, .inr trivial, .inr trivial, .inr trivial, .inr trivial, .inr trivial, .inr trivial, .inr trivial, .inr trivial, .inr trivial, .inr trivial, .inr trivial, .inr trivial, .inr trivial, .inr trivial, .inr trivial, .inr trivial, .inr trivial, .inr trivial, .inr trivial, .inr trivial, .inr trivial, .inr trivial, .inr trivial, .inr trivial, .inr trivial, .inr trivial, .inr trivial, .inr trivial, .inr trivial, .inr trivial, .inr trivial, .inr trivial, .inr trivial, .inr trivial, .inr trivial, .inr trivial, .inr trivial, .inr trivial, .inr trivial, .inr trivial, .inr trivial, .inr trivial, .inr trivial, .inr trivial, .inr trivial, .inr trivial, .inr trivial, .inl rfl, .inl rfl, .inl rfl, .inl rfl, .inl rfl, .inl rfl, .inl rfl, .inl rfl, .inl rfl, .inl rfl, .inl rfl, .inl rfl, .inl rfl, .inl rfl, .inl rfl, .inl rfl, .inl rfl, .inl rfl, trivial⟩ (c46_ob _ ys w.heap.size _ v3 H3.out (range1 p0)) ?_
   intro a w8 hg8 hd hsz hk8
   have h6 := hk8 4 (by show 4 < 401; decide)
   go_wp2
   refine bodyPost_ret (results_tmp rfl _ _ _) hd ?_
   exact ⟨congrArg _ h6, grown_trans (grown_trans (grown_trans HG2.out HA0.out) (grown_drew W)) hg8⟩
end Go.Proofs.Ytkeiffccllfkpaa
/- The law CodecReads at rows. (printed by gen_law15.py) -/
namespace Go.Proofs.Ytkeiffccllfkpaa
open Go.RowKit
set_option linter.unusedSimpArgs false
set_option linter.unusedVariables false
theorem reads1 (b : Value) (xs : List Nat) (kind : Int) (w : World) (hb : Sl w 1 b xs.length (bv xs)) (hbl : Lo b w.heap.size) (hx : ∀ x ∈ xs, x < 256) (h200 : ¬ 200 < xs.length) (hk : bits .and .i64 kind 7 = 1) :
   Calls Try.prog 15 #[b, .int .i64 kind] w fun e w' => e = .returned (.bool true) ∧ w.grownBy w' none := by
 obtain ⟨ao, cap, rfl, hnc, hcm⟩ := hb.shape
 have HB := hid hb
 have HL := hid hbl
 have HX := hid hx
 have HLEN := hid h200
 clear hb hbl hx
 have d1 : decide (200 < xs.length) = false := decide_eq_false h200
 go_enter Try.func15, Try.ntmps15
 go_wp2_with fail
 have ga := World.grownBy_alloc w (.cells #[.slice ao xs.length cap, .int .i64 0] 33) none
 refine (rdxRow_walk (.slice ao xs.length cap) xs _ (HB.out.kn ga) (by have := HLEN.out; omega) HX.out (HL.out.mono ga.size)).mono ?_
 intro e w1 h4
 have g1 := h4.1
 have hst : RSt 33 w.heap.size w1 w.heap.size (.ok xs) :=
   ⟨_, xs, ⟨rfl, row_of g1 (heap_at rfl) (by simp)⟩, HB.out.kn (grown_trans ga g1), ⟨HL.out, Nat.le_refl _⟩, HX.out, by have := HLEN.out; omega⟩
 have hs1 : w.heap.size < w1.heap.size := by have := g1.size; simp at this; omega
 have HST := hid hst
 have G1 := hid (grown_trans ga g1)
 clear hst g1 ga
 cases hp : pRow xs with
 | error n =>
   unfold ReadPost at h4
   rw [hp] at h4
   obtain ⟨_, rfl, hne⟩ := h4
   have HP := hid hp
   clear hp
   go_wp2_with fail
   refine (rRow_read _ _ _ HST.out).mono ?_
   rintro e w2 ⟨v2, y, s2, rfl, hrep, hg2, hst2, hrel⟩
   obtain rfl := hrel.err_of HP.out
   obtain ⟨v3, l3, ⟨he, he2, hrow⟩, _⟩ := hst2
   obtain ⟨r0, r1, r2, r3⟩ := row2 hrow
   have be : ((n : Int) != 0) = true := by simp; omega
   have be' : ((n : Int) == 0) = false := by simp; omega
   have HG2 := hid hg2
   obtain ⟨ao2, cap2, rfl, _, _⟩ := hrep.1.shape
   clear hrel he he2 hrow hg2 hrep hne
   go_wp2_with (go_at_call 18; refine (awake_walk _).mono ?_; rintro e w' ⟨rfl, hg⟩)
   go_ret
   exact ⟨rfl, grown_trans (grown_newR G1.out HG2.out (Nat.le_refl _)) hg⟩
 | ok p =>
   obtain ⟨x, ys⟩ := p
   unfold ReadPost at h4
   rw [hp] at h4
   obtain ⟨_, v, rv, rfl, hrep, hrest, hrlo⟩ := h4
   have RLO := hid (show ∀ k, rv.ownBlock = some k → w.heap.size + 1 ≤ k from fun k hk => by have := hrlo k hk; simpa using this)
   clear hrlo
   obtain ⟨ao3, cap3, rfl, _, _⟩ := hrest.shape
   have HP := hid hp
   have HRT := hid hrest
   have HREP := hid hrep
   obtain ⟨ao1, cap1, rfl, _, _⟩ := hrep.1.shape
   clear hp hrest hrep
   go_wp2_with fail
   refine (rRow_read _ _ _ HST.out).mono ?_
   rintro e w2 ⟨v2, y, s2, rfl, hrep2, hg2, hst2, hrel⟩
   obtain ⟨rfl, rfl⟩ := hrel.ok_of HP.out
   obtain ⟨v3, l3, ⟨rfl, hrow⟩, hs3, _⟩ := hst2
   obtain ⟨r0, r1, r2, r3⟩ := row2 hrow
   have HG2 := hid hg2
   have HROW := hid hrow
   have HREP2 := hid hrep2
   obtain ⟨ao2, cap2, rfl, _, _⟩ := hrep2.1.shape
   have hsl1 := HREP.out.1.kept hg2 (.inr fun e => by have := (HREP.out.2 _ e).1; simp at this; omega)
   have HS1 := hid hsl1
   clear hsl1
   clear hrel hrow hg2 hrep2
   go_wp2_with (go_at_call 45; refine (sameRow_walk _ _ _ _ _ HS1.out HREP2.out.1).mono ?_; rintro e w5 ⟨rfl, hg5⟩; have hrow5 := row_of hg5 HROW.out (by simp); obtain ⟨p0, p1, p2, p3⟩ := row2 hrow5; have HG5 := hid hg5; have H3 := hid (hs3.kn hg5); clear hrow5 hg5)
   go_wp2
   have hrest := HRT.out.kept (grown_trans HG2.out (grown_none HG5.out)) (.inr fun e => by have := RLO.out _ e; omega)
   refine region_list mixed (c46L ys w.heap.size) _ (c46_reg _) (c46_m _) rfl ⟨.inr trivial, .inr trivial, .inr trivial, .inr trivial, .inl rfl, .inr rfl, .inr hrest, .inr rfl, .inr rfl, .inr trivial, .inr trivial, .inr trivial, .inr trivial, .inr trivial, .inr trivial, .inr trivial, .inr trivial, .inr trivial, .inr trivial, .inr trivial, .inr trivial, .inr trivial, .inr trivial, .inr trivial, .inr trivial, .inr trivial, .inr trivial, .inr trivial, .inr trivial, .inr trivial, .inr trivial, .inr trivial, .inr trivial, .inr trivial, .inr trivial, .inr trivial, .inr trivial, .inr trivial, .inr trivial, .inr trivial, .inr trivial, .inr trivial, .inr trivial, .inr trivial, .inr trivial, .inr trivial, .inr trivial, .inr trivial, .inr trivial, .inr trivial, .inr trivial, .inr trivial, .inr trivial, .inr trivial, .inr trivial, .inr trivial, .inr trivial, .inr trivial, .inr trivial, .inr trivial, .inr trivial, .inr trivial, .inr trivial, .inr trivial, .inr trivial, .inr trivial, .inr trivial, .inr trivial, .inr trivial, .inr trivial, .inr trivial, .inr trivial, .inr trivial, .inr trivial, .inr trivial, .inr trivial, .inr trivial, .inr trivial, .inr trivial, .inr trivial, .inr trivial, .inr trivial, .inr trivial, .inr trivial, .inr trivial, .inr trivial, .inr trivial, .inr trivial, .inr trivial, .inr trivial, .inr trivial, .inr trivial, .inr trivial, .inr trivial, .inr trivial, .inr trivial, .inr trivial, .inr trivial, .inr trivial, .inr trivial, .inr trivial, .inr trivial, .inr trivial, .inr trivial, .inr trivial, .inr trivial, .inr trivial, .inr trivial, .inr trivial, .inr trivial, .inr trivial, .inr trivial, .inr trivial, .inr trivial, .inr trivial, .inr trivial, .inr trivial, .inr trivial, .inr trivial, .inr trivial, .inr trivial, .inr trivial, .inr trivial, .inr trivial, .inr trivial, .inr trivial, .inr trivial, .inr trivial, .inr trivial, .inr trivial, .inr trivial, .inr trivial, .inr trivial, .inr trivial, .inr trivial, .inr trivial, .inr trivial, .inr trivial, .inr trivial, .inr trivial, .inr trivial, .inr trivial, .inr trivial, .inr trivial, .inr trivial, .inr trivial, .inr trivial, .inr trivial, .inr trivial, .inr trivial, .inr trivial, .inr trivial, .inr trivial, .inr trivial, .inr trivial, .inr trivial, .inr trivial, .inr trivial, .inr trivial, .inr trivial, .inr trivial, .inr trivial, .inr trivial, .inr trivial, .inr trivial, .inr trivial, .inr trivial, .inr trivial, .inr trivial, .inr trivial, .inr trivial, .inr trivial, .inr trivial, .inr trivial, .inr trivial, .inr trivial, .inr trivial, .inr trivial, .inr trivial, .inr trivial, .inr trivial, .inr trivial, .inr trivial, .inr trivial, .inr trivial, .inr trivial, .inr trivial, .inr trivial, .inr trivial, .inr trivial, .inr trivial, .inr trivial, .inr trivial, .inr trivial, .inr trivial, .inr trivial, .inr trivial, .inr trivial, .inr trivial, .inr trivial, .inr trivial, .inr trivial, .inr trivial, .inr trivial, .inr trivial, .inr trivial, .inr trivial, .inr trivial, .inr trivial, .inr trivial, .inr trivial, .inr trivial, .inr trivial, .inr trivial, .inr trivial, .inr trivial, .inr trivial, .inr trivial, .inr trivial, .inr trivial, .inr trivial, .inr trivial, .inr trivial, .inr trivial, .inr trivial, .inr trivial, .inr trivial, .inr trivial, .inr trivial, .inr trivial, .inr trivial, .inr trivial, .inr trivial, .inr trivial, .inr trivial, .inr trivial, .inr trivial, .inr trivial, .inr trivial, .inr trivial, .inr trivial, .inr trivial, .inr trivial, .inr trivial, .inr trivial, .inr trivial, .inr trivial, .inr trivial, .inr trivial, .inr trivial, .inr trivial, .inr trivial, .inr trivial, .inr trivial, .inr trivial, .inr trivial, .inr trivial, .inr trivial, .inr trivial, .inr trivial, .inr trivial, .inr trivial, .inr trivial, .inr trivial, .inr trivial, .inr trivial, .inr trivial, .inr trivial, .inr trivial, .inr trivial, .inr trivial, .inr trivial, .inr trivial, .inr trivial, .inr trivial, .inr trivial, .inr trivial, .inr trivial, .inr trivial, .inr trivial, .inr trivial, .inr trivial, .inr trivial, .inr trivial, .inr trivial, .inr trivial, .inr trivial, .inr trivial, .inr trivial, .inr trivial, .inr trivial, .inr trivial, .inr trivial, .inr trivial, .inr trivial, .inr trivial, .inr trivial, .inr trivial, .inr trivial, .inr trivial, .inr trivial, .inr trivial, .inr trivial, .inr trivial, .inr trivial, .inr trivial, .inr trivial, .inr trivial, .inr trivial, .inr trivial, .inr trivial, .inr trivial, .inr trivial, .inr trivial, .inr trivial, .inr trivial, .inr trivial, .inr trivial, .inr trivial, .inr trivial, .inr trivial, .inr trivial, .inr trivial, .inr trivial, .inr trivial, .inr trivial, .inr trivial, .inr trivial, .inr trivial, .inr trivial, .inr trivial, .inr trivial, .inr trivial, .inr trivial, .inr trivial, .inr trivial, .inr trivial, .inr trivial, .inr trivial, .inr trivial, .inr trivial, .inr trivial, .inr trivial, .inr trivial, .inr trivial, .inr trivial, .inr trivial, .inr trivial, .inr trivial, .inr trivial, .inr trivial, .inr trivial, .inr trivial, .inr trivial, .inr trivial, .inr trivial, .inr trivial, .inr trivial, .inr trivial, .inr trivial, .inr trivial, .inr trivial, .inr trivial, .inr trivial, .inr trivial, .inr trivial, .inr trivial, .inr trivial, .inr trivial, .inr trivial, .inr trivial, .inr trivial, .inr trivial, .inr trivial, .inr trivial, .inr trivial, .inr trivial, .inr trivial, .inr trivial, .inr trivial, .inr trivial, .inr trivial, .inr trivial, .inl rfl, .inl rfl, .inl rfl, .inl rfl, .inl rfl, .inl rfl, .inl rfl, .inl rfl, .inl rfl, .inl rfl, .inl rfl, .inl rfl, .inl rfl, .inl rfl, .inl rfl, .inl rfl, .inl rfl, .inl rfl, trivial⟩ (c46_ob _ ys w.heap.size _ v3 H3.out (range1 p0)) ?_
   intro a w8 hg8 hd hsz hk8
   have h6 := hk8 4 (by show 4 < 401; decide)
   go_wp2
   refine bodyPost_ret (results_tmp rfl _ _ _) hd ?_
   exact ⟨congrArg _ h6, grown_trans (grown_trans (grown_newR G1.out HG2.out (Nat.le_refl _)) HG5.out) hg8⟩
end Go.Proofs.Ytkeiffccllfkpaa
/- Records: the reference's encoding, the program's appender, comparison. -/
namespace Go.Proofs.Ytkeiffccllfkpaa
open Go.RowKit
theorem sameRow22_same (a b : Value) (l : List V) (w : World) (ha : Sl w 3 a l.length (l.flatMap vcells)) (hb : Sl w 3 b l.length (l.flatMap vcells)) :
   Calls Try.prog 121 #[a, b] w fun e w' => e = .returned (.bool true) ∧ w.grownBy w' none :=
 (sameRow22_walk a b l l w ha hb).mono fun e w' ⟨he, hg⟩ => ⟨by rw [he]; simp, hg⟩
theorem sameRecord22_walk (r q r2 q2 : Value) (l : List V) (s : List Int) (d : Int) (w : World) (hr : Sl w 3 r l.length (l.flatMap vcells)) (hr2 : Sl w 3 r2 l.length (l.flatMap vcells)) (hq : Sl w 1 q s.length (s.map (Value.int .i64))) (hq2 : Sl w 1 q2 s.length (s.map (Value.int .i64))) :
   Calls Try.prog 135 #[.agg #[r, q, .int .i64 d], .agg #[r2, q2, .int .i64 d]] w fun e w' => e = .returned (.bool true) ∧ w.grownBy w' none := by
 obtain ⟨ao, cap, rfl, hnc, hcm⟩ := hr.shape
 obtain ⟨ao2, cap2, rfl, hnc2, hcm2⟩ := hq.shape
 obtain ⟨ao3, cap3, rfl, hnc3, hcm3⟩ := hr2.shape
 obtain ⟨ao4, cap4, rfl, hnc4, hcm4⟩ := hq2.shape
 have H := hid (And.intro hr (And.intro hr2 (And.intro hq hq2)))
 clear hr hr2 hq hq2
 go_enter Try.func135, Try.ntmps135
 go_wp2_with fail
 have ga := World.grownBy_alloc w (.cells #[.slice ao l.length cap, .slice ao2 s.length cap2, .int .i64 d] 95) none
 have gb := grown_trans ga (World.grownBy_alloc _ (.cells #[.slice ao3 l.length cap3, .slice ao4 s.length cap4, .int .i64 d] 95) none)
 refine (sameRow22_same _ _ l _ (H.out.1.kn gb) (H.out.2.1.kn gb)).mono ?_
 rintro e w1 ⟨rfl, hg1⟩
 have hb1 := row_of hg1 (row_of (World.grownBy_alloc _ (.cells #[.slice ao3 l.length cap3, .slice ao4 s.length cap4, .int .i64 d] 95) none) (heap_at (w := w) (o := .cells #[.slice ao l.length cap, .slice ao2 s.length cap2, .int .i64 d] 95) rfl) (by simp)) (by simp)
 have hb2 := row_of hg1 (heap_at (w := w.alloc (.cells #[.slice ao l.length cap, .slice ao2 s.length cap2, .int .i64 d] 95)) (o := .cells #[.slice ao3 l.length cap3, .slice ao4 s.length cap4, .int .i64 d] 95) (n := w.heap.size + 1) (by simp)) (by simp)
 have G1 := hid (grown_trans gb hg1)
 have y0 : ∀ j, w1.cell? ⟨w.heap.size, j, none⟩ = (#[.slice ao l.length cap, .slice ao2 s.length cap2, .int .i64 d] : Array Value)[j]? := fun j => cell_of_row w1 _ j _ _ _ hb1
 have y1 : ∀ j, w1.cell? ⟨w.heap.size + 1, j, none⟩ = (#[.slice ao3 l.length cap3, .slice ao4 s.length cap4, .int .i64 d] : Array Value)[j]? := fun j => cell_of_row w1 _ j _ _ _ hb2
 have B1 := hid (And.intro hb1 hb2)
 clear hg1 gb ga hb1 hb2
 go_wp2_with fail
 refine (sameInts_walk _ _ s _ (H.out.2.2.1.kn G1.out) (H.out.2.2.2.kn G1.out)).mono ?_
 rintro e w2 ⟨rfl, hg2⟩
 have z0 : ∀ j, w2.cell? ⟨w.heap.size, j, none⟩ = (#[.slice ao l.length cap, .slice ao2 s.length cap2, .int .i64 d] : Array Value)[j]? := fun j => cell_of_row w2 _ j _ _ _ (row_of hg2 B1.out.1 (by simp))
 have z1 : ∀ j, w2.cell? ⟨w.heap.size + 1, j, none⟩ = (#[.slice ao3 l.length cap3, .slice ao4 s.length cap4, .int .i64 d] : Array Value)[j]? := fun j => cell_of_row w2 _ j _ _ _ (row_of hg2 B1.out.2 (by simp))
 have G2 := hid (grown_trans G1.out hg2)
 clear hg2 y0 y1
 go_wp2
 go_ret
 exact ⟨rfl, G2.out⟩
theorem sameRecord_walk (r q r2 q2 : Value) (l : List V) (s : List Int) (d : Int) (w : World) (hr : Sl w 3 r l.length (l.flatMap vcells)) (hr2 : Sl w 3 r2 l.length (l.flatMap vcells)) (hq : Sl w 1 q s.length (s.map (Value.int .i64))) (hq2 : Sl w 1 q2 s.length (s.map (Value.int .i64))) :
   Calls Try.prog 58 #[.agg #[r, q, .int .i64 d], .agg #[r2, q2, .int .i64 d]] w fun e w' => e = .returned (.bool true) ∧ w.grownBy w' none := by
 obtain ⟨ao, cap, rfl, hnc, hcm⟩ := hr.shape
 obtain ⟨ao2, cap2, rfl, hnc2, hcm2⟩ := hq.shape
 obtain ⟨ao3, cap3, rfl, hnc3, hcm3⟩ := hr2.shape
 obtain ⟨ao4, cap4, rfl, hnc4, hcm4⟩ := hq2.shape
 have H := hid (And.intro hr (And.intro hr2 (And.intro hq hq2)))
 clear hr hr2 hq hq2
 go_enter Try.func58, Try.ntmps58
 go_wp2_with fail
 have ga := World.grownBy_alloc w (.cells #[.slice ao l.length cap, .slice ao2 s.length cap2, .int .i64 d] 95) none
 have gb := grown_trans ga (World.grownBy_alloc _ (.cells #[.slice ao3 l.length cap3, .slice ao4 s.length cap4, .int .i64 d] 95) none)
 refine (sameRecord22_walk _ _ _ _ l s d _ (H.out.1.kn gb) (H.out.2.1.kn gb) (H.out.2.2.1.kn gb) (H.out.2.2.2.kn gb)).mono ?_
 rintro e w1 ⟨rfl, hg1⟩
 have G1 := hid (grown_trans gb hg1)
 clear hg1 gb ga
 go_wp2
 go_ret
 exact ⟨rfl, G1.out⟩
end Go.Proofs.Ytkeiffccllfkpaa
