/- The law CodecIntReads: the walk. -/
import Derived.Test.YtkeiffccllfkpaaLaw0
namespace Go.Proofs.Ytkeiffccllfkpaa
open Go.RowKit

theorem Rel.err_of {α : Type} {p : Parser α} {l : List Nat} {x : α} {s : St} {e : Nat} (h : Rel p (.ok l) x s) (hp : p l = .error e) : s = .error e := by
  unfold Rel at h
  simp only [hp] at h
  exact h
theorem Rel.ok_of {α : Type} {p : Parser α} {l r : List Nat} {x y : α} {s : St} (h : Rel p (.ok l) x s) (hp : p l = .ok (y, r)) : y = x ∧ s = .ok r := by
  unfold Rel at h
  simp only [hp] at h
  exact h
theorem tyS3 {w : World} {v : Value} {m : Nat} {xs : List Value} (h : Sl w 1 v m xs) : TY Try.prog 22 [v] v := by
  obtain ⟨ao, cap, rfl, _⟩ := h.shape
  exact tyS _ _ _
set_option linter.unusedVariables false
def c4p0 (ps0 : String) : Oper := { dst := some 46, op := Go.Op.move (Go.Operand.tmp 5), type := 25, pos := ps0, after := #[], guard := none }
def c4p1 (ps0 : String) : Oper := { dst := some 47, op := Go.Op.binOp Go.BinOp.eql 25 (Go.Operand.tmp 46) (Go.Operand.const (Go.Value.int Go.IntKind.i64 0)) 25, type := 4, pos := ps0, after := #[{ on := 0, ground := Go.Ground.data }], guard := none }
def c4p2 (ps0 : String) : Oper := { dst := some 48, op := Go.Op.move (Go.Operand.tmp 47), type := 4, pos := ps0, after := #[{ on := 1, ground := Go.Ground.data }], guard := none }
def c4p3 (ps0 : String) : Oper := { dst := some 49, op := Go.Op.move (Go.Operand.tmp 3), type := 2, pos := ps0, after := #[{ on := 2, ground := Go.Ground.guard }], guard := some (2, true) }
def c4p4 (ps0 : String) : Oper := { dst := some 50, op := Go.Op.move (Go.Operand.tmp 7), type := 2, pos := ps0, after := #[{ on := 2, ground := Go.Ground.guard }], guard := some (2, true) }
def c4p5 (ps0 : String) : Oper := { dst := some 51, op := Go.Op.binOp Go.BinOp.eql 2 (Go.Operand.tmp 49) (Go.Operand.tmp 50) 2, type := 4, pos := ps0, after := #[{ on := 3, ground := Go.Ground.data }, { on := 4, ground := Go.Ground.data }, { on := 2, ground := Go.Ground.guard }], guard := some (2, true) }
def c4p6 (ps0 : String) : Oper := { dst := some 52, op := Go.Op.pick (Go.Operand.tmp 48) (Go.Operand.tmp 51) (Go.Operand.const (Go.Value.bool false)), type := 4, pos := ps0, after := #[{ on := 2, ground := Go.Ground.data }, { on := 5, ground := Go.Ground.data }], guard := none }
def c4p7 (ps0 : String) : Oper := { dst := some 53, op := Go.Op.move (Go.Operand.tmp 52), type := 4, pos := ps0, after := #[{ on := 6, ground := Go.Ground.data }, { on := 2, ground := Go.Ground.chain }], guard := none }
def c4p8 (ps0 : String) : Oper := { dst := some 54, op := Go.Op.move (Go.Operand.tmp 4), type := 22, pos := ps0, after := #[{ on := 7, ground := Go.Ground.guard }], guard := some (7, true) }
def c4p9 (ps0 : String) : Oper := { dst := some 55, op := Go.Op.convert 22 9 (Go.Operand.tmp 54), type := 9, pos := ps0, after := #[{ on := 8, ground := Go.Ground.data }, { on := 7, ground := Go.Ground.guard }], guard := some (7, true) }
def c4p10 (ps0 : String) : Oper := { dst := some 56, op := Go.Op.move (Go.Operand.tmp 6), type := 31, pos := ps0, after := #[{ on := 7, ground := Go.Ground.guard }], guard := some (7, true) }
def c4p11 (ps0 : String) : Oper := { dst := some 57, op := Go.Op.nilCheck (Go.Operand.tmp 56), type := 0, pos := ps0, after := #[{ on := 10, ground := Go.Ground.data }, { on := 7, ground := Go.Ground.guard }], guard := some (7, true) }
def c4p12 (ps0 : String) : Oper := { dst := some 58, op := Go.Op.fieldAddr 33 (Go.Operand.tmp 57) 0, type := 0, pos := ps0, after := #[{ on := 11, ground := Go.Ground.data }, { on := 7, ground := Go.Ground.guard }], guard := some (7, true) }
def c4p13 (ps0 : String) : Oper := { dst := some 59, op := Go.Op.load 22 (Go.Operand.tmp 58), type := 22, pos := ps0, after := #[{ on := 12, ground := Go.Ground.data }, { on := 7, ground := Go.Ground.guard }], guard := some (7, true) }
def c4p14 (ps0 : String) : Oper := { dst := some 60, op := Go.Op.convert 22 9 (Go.Operand.tmp 59), type := 9, pos := ps0, after := #[{ on := 13, ground := Go.Ground.data }, { on := 7, ground := Go.Ground.guard }], guard := some (7, true) }
def c4p15 (ps0 : String) : Oper := { dst := some 61, op := Go.Op.binOp Go.BinOp.eql 9 (Go.Operand.tmp 55) (Go.Operand.tmp 60) 9, type := 4, pos := ps0, after := #[{ on := 9, ground := Go.Ground.data }, { on := 14, ground := Go.Ground.data }, { on := 7, ground := Go.Ground.guard }], guard := some (7, true) }
def c4p16 (ps0 : String) : Oper := { dst := some 62, op := Go.Op.pick (Go.Operand.tmp 53) (Go.Operand.tmp 61) (Go.Operand.const (Go.Value.bool false)), type := 4, pos := ps0, after := #[{ on := 7, ground := Go.Ground.data }, { on := 15, ground := Go.Ground.data }], guard := none }
def c4p17 (ps0 : String) : Oper := { dst := some 63, op := Go.Op.move (Go.Operand.tmp 62), type := 4, pos := ps0, after := #[{ on := 16, ground := Go.Ground.data }, { on := 7, ground := Go.Ground.chain }], guard := none }
def c4p18 (ps0 : String) : Oper := { dst := some 64, op := Go.Op.call { callee := Go.Callee.value (Go.Operand.func 18), args := #[], argTypes := #[] }, type := 4, pos := ps0, after := #[{ on := 17, ground := Go.Ground.chain }, { on := 17, ground := Go.Ground.guard }], guard := some (17, true) }
def c4p19 (ps0 : String) : Oper := { dst := some 65, op := Go.Op.pick (Go.Operand.tmp 63) (Go.Operand.tmp 64) (Go.Operand.const (Go.Value.bool false)), type := 4, pos := ps0, after := #[{ on := 17, ground := Go.Ground.data }, { on := 18, ground := Go.Ground.data }], guard := none }
def c4p20 (ps0 : String) : Oper := { dst := some 2, op := Go.Op.assign (Go.Operand.tmp 65), type := 4, pos := ps0, after := #[{ on := 19, ground := Go.Ground.data }, { on := 18, ground := Go.Ground.chain }, { on := 0, ground := Go.Ground.phase }, { on := 1, ground := Go.Ground.phase }, { on := 2, ground := Go.Ground.phase }, { on := 3, ground := Go.Ground.phase }, { on := 4, ground := Go.Ground.phase }, { on := 5, ground := Go.Ground.phase }, { on := 6, ground := Go.Ground.phase }, { on := 7, ground := Go.Ground.phase }, { on := 8, ground := Go.Ground.phase }, { on := 9, ground := Go.Ground.phase }, { on := 10, ground := Go.Ground.phase }, { on := 11, ground := Go.Ground.phase }, { on := 12, ground := Go.Ground.phase }, { on := 13, ground := Go.Ground.phase }, { on := 14, ground := Go.Ground.phase }, { on := 15, ground := Go.Ground.phase }, { on := 16, ground := Go.Ground.phase }, { on := 17, ground := Go.Ground.phase }, { on := 18, ground := Go.Ground.phase }, { on := 19, ground := Go.Ground.phase }], guard := none }
def c4ops (ps0 : String) : List Oper := [c4p0 ps0, c4p1 ps0, c4p2 ps0, c4p3 ps0, c4p4 ps0, c4p5 ps0, c4p6 ps0, c4p7 ps0, c4p8 ps0, c4p9 ps0, c4p10 ps0, c4p11 ps0, c4p12 ps0, c4p13 ps0, c4p14 ps0, c4p15 ps0, c4p16 ps0, c4p17 ps0, c4p18 ps0, c4p19 ps0, c4p20 ps0]
def c4F (ys : List Nat) (x : Int) (R : Nat) : List Value := [undef, undef, (.bool true), (.int .i64 x), undef, (.int .i64 0), (.pointer (some ⟨R, 0, none⟩)), (.int .i64 x), undef, undef, undef, undef, undef, undef, undef, undef, undef, undef, undef, undef, undef, undef, undef, undef, undef, undef, undef, undef, undef, undef, undef, undef, undef, undef, undef, undef, undef, undef, undef, undef, undef, undef, undef, undef, undef, undef, (.int .i64 0), (.bool true), (.bool true), (.int .i64 x), (.int .i64 x), (.bool true), (.bool true), (.bool true), undef, (.string (bs ys)), (.pointer (some ⟨R, 0, none⟩)), (.pointer (some ⟨R, 0, none⟩)), (.pointer (some ⟨R, 0, none⟩)), undef, (.string (bs ys)), (.bool true), (.bool true), (.bool true), (.bool true), (.bool true)]
def c4L (ys : List Nat) (x : Int) (R : Nat) : List Sp := [Sp.any, Sp.any, Sp.is (.bool true), Sp.is (.int .i64 x), Sp.sl ys, Sp.is (.int .i64 0), Sp.is (.pointer (some ⟨R, 0, none⟩)), Sp.is (.int .i64 x), Sp.any, Sp.any, Sp.any, Sp.any, Sp.any, Sp.any, Sp.any, Sp.any, Sp.any, Sp.any, Sp.any, Sp.any, Sp.any, Sp.any, Sp.any, Sp.any, Sp.any, Sp.any, Sp.any, Sp.any, Sp.any, Sp.any, Sp.any, Sp.any, Sp.any, Sp.any, Sp.any, Sp.any, Sp.any, Sp.any, Sp.any, Sp.any, Sp.any, Sp.any, Sp.any, Sp.any, Sp.any, Sp.any, Sp.is (.int .i64 0), Sp.is (.bool true), Sp.is (.bool true), Sp.is (.int .i64 x), Sp.is (.int .i64 x), Sp.is (.bool true), Sp.is (.bool true), Sp.is (.bool true), Sp.sl ys, Sp.is (.string (bs ys)), Sp.is (.pointer (some ⟨R, 0, none⟩)), Sp.is (.pointer (some ⟨R, 0, none⟩)), Sp.is (.pointer (some ⟨R, 0, none⟩)), Sp.sl ys, Sp.is (.string (bs ys)), Sp.is (.bool true), Sp.is (.bool true), Sp.is (.bool true), Sp.is (.bool true), Sp.is (.bool true)]
theorem c4_reg (ps0 : String) : regB (c4ops ps0).toArray 66 = true := by kernel_rfl
theorem c4_m (ps0 : String) : dstsB (c4ops ps0) 66 = [false, false, true, false, false, false, false, false, false, false, false, false, false, false, false, false, false, false, false, false, false, false, false, false, false, false, false, false, false, false, false, false, false, false, false, false, false, false, false, false, false, false, false, false, false, false, true, true, true, true, true, true, true, true, true, true, true, true, true, true, true, true, true, true, true, true] := by kernel_rfl
set_option maxRecDepth 100000 in
theorem c4_o0 (ps0 : String) (ys : List Nat) (x : Int) (R : Nat) (w0 : World) (v3 : Value) (hs : Sl w0 1 v3 ys.length (bv ys)) (hc : w0.rangeAt R 0 [v3]) : Ob Try.prog (c4ops ps0).toArray (c4L ys x R) 66 w0 (c4p0 ps0) := ob_move 5 46 rfl rfl (by decide) trivial (fun _ _ h => h)
set_option maxRecDepth 100000 in
theorem c4_o1 (ps0 : String) (ys : List Nat) (x : Int) (R : Nat) (w0 : World) (v3 : Value) (hs : Sl w0 1 v3 ys.length (bv ys)) (hc : w0.rangeAt R 0 [v3]) : Ob Try.prog (c4ops ps0).toArray (c4L ys x R) 66 w0 (c4p1 ps0) := ob_eqI rfl rfl trivial ⟨by decide, fun _ _ h => h⟩ rfl rfl (fun _ => rfl)
set_option maxRecDepth 100000 in
theorem c4_o2 (ps0 : String) (ys : List Nat) (x : Int) (R : Nat) (w0 : World) (v3 : Value) (hs : Sl w0 1 v3 ys.length (bv ys)) (hc : w0.rangeAt R 0 [v3]) : Ob Try.prog (c4ops ps0).toArray (c4L ys x R) 66 w0 (c4p2 ps0) := ob_move 47 48 rfl rfl (by decide) trivial (fun _ _ h => h)
set_option maxRecDepth 100000 in
theorem c4_o3 (ps0 : String) (ys : List Nat) (x : Int) (R : Nat) (w0 : World) (v3 : Value) (hs : Sl w0 1 v3 ys.length (bv ys)) (hc : w0.rangeAt R 0 [v3]) : Ob Try.prog (c4ops ps0).toArray (c4L ys x R) 66 w0 (c4p3 ps0) := ob_move 3 49 rfl rfl (by decide) ⟨48, rfl, by decide, fun _ _ h => h⟩ (fun _ _ h => h)
set_option maxRecDepth 100000 in
theorem c4_o4 (ps0 : String) (ys : List Nat) (x : Int) (R : Nat) (w0 : World) (v3 : Value) (hs : Sl w0 1 v3 ys.length (bv ys)) (hc : w0.rangeAt R 0 [v3]) : Ob Try.prog (c4ops ps0).toArray (c4L ys x R) 66 w0 (c4p4 ps0) := ob_move 7 50 rfl rfl (by decide) ⟨48, rfl, by decide, fun _ _ h => h⟩ (fun _ _ h => h)
set_option maxRecDepth 100000 in
theorem c4_o5 (ps0 : String) (ys : List Nat) (x : Int) (R : Nat) (w0 : World) (v3 : Value) (hs : Sl w0 1 v3 ys.length (bv ys)) (hc : w0.rangeAt R 0 [v3]) : Ob Try.prog (c4ops ps0).toArray (c4L ys x R) 66 w0 (c4p5 ps0) := ob_eqI rfl rfl ⟨48, rfl, by decide, fun _ _ h => h⟩ ⟨by decide, fun _ _ h => h⟩ ⟨by decide, fun _ _ h => h⟩ rfl (fun _ => rfl)
set_option maxRecDepth 100000 in
theorem c4_o6 (ps0 : String) (ys : List Nat) (x : Int) (R : Nat) (w0 : World) (v3 : Value) (hs : Sl w0 1 v3 ys.length (bv ys)) (hc : w0.rangeAt R 0 [v3]) : Ob Try.prog (c4ops ps0).toArray (c4L ys x R) 66 w0 (c4p6 ps0) := ob_pick rfl rfl trivial ⟨by decide, fun _ _ h => h⟩ ⟨by decide, fun _ _ h => h⟩ (fun _ => rfl)
set_option maxRecDepth 100000 in
theorem c4_o7 (ps0 : String) (ys : List Nat) (x : Int) (R : Nat) (w0 : World) (v3 : Value) (hs : Sl w0 1 v3 ys.length (bv ys)) (hc : w0.rangeAt R 0 [v3]) : Ob Try.prog (c4ops ps0).toArray (c4L ys x R) 66 w0 (c4p7 ps0) := ob_move 52 53 rfl rfl (by decide) trivial (fun _ _ h => h)
set_option maxRecDepth 100000 in
theorem c4_o8 (ps0 : String) (ys : List Nat) (x : Int) (R : Nat) (w0 : World) (v3 : Value) (hs : Sl w0 1 v3 ys.length (bv ys)) (hc : w0.rangeAt R 0 [v3]) : Ob Try.prog (c4ops ps0).toArray (c4L ys x R) 66 w0 (c4p8 ps0) := ob_move 4 54 rfl rfl (by decide) ⟨53, rfl, by decide, fun _ _ h => h⟩ (fun _ _ h => h)
set_option maxRecDepth 100000 in
theorem c4_o9 (ps0 : String) (ys : List Nat) (x : Int) (R : Nat) (w0 : World) (v3 : Value) (hs : Sl w0 1 v3 ys.length (bv ys)) (hc : w0.rangeAt R 0 [v3]) : Ob Try.prog (c4ops ps0).toArray (c4L ys x R) 66 w0 (c4p9 ps0) := ob_conv 54 55 22 9 5 Try.underlying22 Try.underlying5 Try.underlying9 ys rfl rfl (by decide) ⟨53, rfl, by decide, fun _ _ h => h⟩ (fun _ _ _ h => h) (fun _ => rfl)
set_option maxRecDepth 100000 in
theorem c4_o10 (ps0 : String) (ys : List Nat) (x : Int) (R : Nat) (w0 : World) (v3 : Value) (hs : Sl w0 1 v3 ys.length (bv ys)) (hc : w0.rangeAt R 0 [v3]) : Ob Try.prog (c4ops ps0).toArray (c4L ys x R) 66 w0 (c4p10 ps0) := ob_move 6 56 rfl rfl (by decide) ⟨53, rfl, by decide, fun _ _ h => h⟩ (fun _ _ h => h)
set_option maxRecDepth 100000 in
theorem c4_o11 (ps0 : String) (ys : List Nat) (x : Int) (R : Nat) (w0 : World) (v3 : Value) (hs : Sl w0 1 v3 ys.length (bv ys)) (hc : w0.rangeAt R 0 [v3]) : Ob Try.prog (c4ops ps0).toArray (c4L ys x R) 66 w0 (c4p11 ps0) := ob_nilCheck rfl rfl ⟨53, rfl, by decide, fun _ _ h => h⟩ ⟨by decide, fun _ _ h => h⟩ (fun _ => rfl)
set_option maxRecDepth 100000 in
theorem c4_o12 (ps0 : String) (ys : List Nat) (x : Int) (R : Nat) (w0 : World) (v3 : Value) (hs : Sl w0 1 v3 ys.length (bv ys)) (hc : w0.rangeAt R 0 [v3]) : Ob Try.prog (c4ops ps0).toArray (c4L ys x R) 66 w0 (c4p12 ps0) := ob_fieldAddr rfl rfl ⟨53, rfl, by decide, fun _ _ h => h⟩ ⟨by decide, fun _ _ h => h⟩ (fun w => by go_simp) (fun _ => rfl)
set_option maxRecDepth 100000 in
theorem c4_o13 (ps0 : String) (ys : List Nat) (x : Int) (R : Nat) (w0 : World) (v3 : Value) (hs : Sl w0 1 v3 ys.length (bv ys)) (hc : w0.rangeAt R 0 [v3]) : Ob Try.prog (c4ops ps0).toArray (c4L ys x R) 66 w0 (c4p13 ps0) := ob_load rfl rfl ⟨53, rfl, by decide, fun _ _ h => h⟩ ⟨by decide, fun _ _ h => h⟩ (tyS3 hs) hc (fun w hw => hs.kept hw (by cases v3.ownBlock <;> simp))
set_option maxRecDepth 100000 in
theorem c4_o14 (ps0 : String) (ys : List Nat) (x : Int) (R : Nat) (w0 : World) (v3 : Value) (hs : Sl w0 1 v3 ys.length (bv ys)) (hc : w0.rangeAt R 0 [v3]) : Ob Try.prog (c4ops ps0).toArray (c4L ys x R) 66 w0 (c4p14 ps0) := ob_conv 59 60 22 9 5 Try.underlying22 Try.underlying5 Try.underlying9 ys rfl rfl (by decide) ⟨53, rfl, by decide, fun _ _ h => h⟩ (fun _ _ _ h => h) (fun _ => rfl)
set_option maxRecDepth 100000 in
theorem c4_o15 (ps0 : String) (ys : List Nat) (x : Int) (R : Nat) (w0 : World) (v3 : Value) (hs : Sl w0 1 v3 ys.length (bv ys)) (hc : w0.rangeAt R 0 [v3]) : Ob Try.prog (c4ops ps0).toArray (c4L ys x R) 66 w0 (c4p15 ps0) := ob_eqS rfl rfl ⟨53, rfl, by decide, fun _ _ h => h⟩ ⟨by decide, fun _ _ h => h⟩ ⟨by decide, fun _ _ h => h⟩ rfl (fun _ => rfl)
set_option maxRecDepth 100000 in
theorem c4_o16 (ps0 : String) (ys : List Nat) (x : Int) (R : Nat) (w0 : World) (v3 : Value) (hs : Sl w0 1 v3 ys.length (bv ys)) (hc : w0.rangeAt R 0 [v3]) : Ob Try.prog (c4ops ps0).toArray (c4L ys x R) 66 w0 (c4p16 ps0) := ob_pick rfl rfl trivial ⟨by decide, fun _ _ h => h⟩ ⟨by decide, fun _ _ h => h⟩ (fun _ => rfl)
set_option maxRecDepth 100000 in
theorem c4_o17 (ps0 : String) (ys : List Nat) (x : Int) (R : Nat) (w0 : World) (v3 : Value) (hs : Sl w0 1 v3 ys.length (bv ys)) (hc : w0.rangeAt R 0 [v3]) : Ob Try.prog (c4ops ps0).toArray (c4L ys x R) 66 w0 (c4p17 ps0) := ob_move 62 63 rfl rfl (by decide) trivial (fun _ _ h => h)
set_option maxRecDepth 100000 in
theorem c4_o18 (ps0 : String) (ys : List Nat) (x : Int) (R : Nat) (w0 : World) (v3 : Value) (hs : Sl w0 1 v3 ys.length (bv ys)) (hc : w0.rangeAt R 0 [v3]) : Ob Try.prog (c4ops ps0).toArray (c4L ys x R) 66 w0 (c4p18 ps0) := ob_call2 [] rfl rfl ⟨63, rfl, by decide, fun _ _ h => h⟩ trivial (fun w hw => (awake_walk w).mono fun e w1 ⟨he, hg⟩ => ⟨_, he, hg, rfl⟩) (enter_of Try.func18 (by kernel_rfl) rfl)
set_option maxRecDepth 100000 in
theorem c4_o19 (ps0 : String) (ys : List Nat) (x : Int) (R : Nat) (w0 : World) (v3 : Value) (hs : Sl w0 1 v3 ys.length (bv ys)) (hc : w0.rangeAt R 0 [v3]) : Ob Try.prog (c4ops ps0).toArray (c4L ys x R) 66 w0 (c4p19 ps0) := ob_pick rfl rfl trivial ⟨by decide, fun _ _ h => h⟩ ⟨by decide, fun _ _ h => h⟩ (fun _ => rfl)
set_option maxRecDepth 100000 in
theorem c4_o20 (ps0 : String) (ys : List Nat) (x : Int) (R : Nat) (w0 : World) (v3 : Value) (hs : Sl w0 1 v3 ys.length (bv ys)) (hc : w0.rangeAt R 0 [v3]) : Ob Try.prog (c4ops ps0).toArray (c4L ys x R) 66 w0 (c4p20 ps0) := ob_assign 65 2 rfl rfl (by decide) trivial (fun _ _ h => h)
set_option maxRecDepth 100000 in
theorem c4_ob (ps0 : String) (ys : List Nat) (x : Int) (R : Nat) (w0 : World) (v3 : Value) (hs : Sl w0 1 v3 ys.length (bv ys)) (hc : w0.rangeAt R 0 [v3]) : ObAll Try.prog (c4ops ps0).toArray (c4L ys x R) 66 w0 (c4ops ps0) := ⟨c4_o0 ps0 ys x R w0 v3 hs hc, c4_o1 ps0 ys x R w0 v3 hs hc, c4_o2 ps0 ys x R w0 v3 hs hc, c4_o3 ps0 ys x R w0 v3 hs hc, c4_o4 ps0 ys x R w0 v3 hs hc, c4_o5 ps0 ys x R w0 v3 hs hc, c4_o6 ps0 ys x R w0 v3 hs hc, c4_o7 ps0 ys x R w0 v3 hs hc, c4_o8 ps0 ys x R w0 v3 hs hc, c4_o9 ps0 ys x R w0 v3 hs hc, c4_o10 ps0 ys x R w0 v3 hs hc, c4_o11 ps0 ys x R w0 v3 hs hc, c4_o12 ps0 ys x R w0 v3 hs hc, c4_o13 ps0 ys x R w0 v3 hs hc, c4_o14 ps0 ys x R w0 v3 hs hc, c4_o15 ps0 ys x R w0 v3 hs hc, c4_o16 ps0 ys x R w0 v3 hs hc, c4_o17 ps0 ys x R w0 v3 hs hc, c4_o18 ps0 ys x R w0 v3 hs hc, c4_o19 ps0 ys x R w0 v3 hs hc, c4_o20 ps0 ys x R w0 v3 hs hc, trivial⟩

set_option maxRecDepth 100000 in
set_option maxHeartbeats 1000000 in
theorem codecIntReads_walk (b : Value) (xs : List Nat) (w : World) (hb : Sl w 1 b xs.length (bv xs)) (hbl : Lo b w.heap.size) (hx : ∀ x ∈ xs, x < 256) :
    Calls Try.prog 4 #[b] w fun e w' => e = .returned (.bool true) ∧ w.grownBy w' none := by
  obtain ⟨ao, cap, rfl, hnc, hcm⟩ := hb.shape
  have HB := hid hb
  have HL := hid hbl
  have HX := hid hx
  clear hb hbl hx
  by_cases h1 : 100 < xs.length
  · have d1 : decide (100 < xs.length) = true := decide_eq_true h1
    go_enter Try.func4, Try.ntmps4
    go_wp2_with (go_at_call 18; refine (awake_walk _).mono ?_; rintro e w' ⟨rfl, hg⟩)
    go_ret
    exact ⟨rfl, hg⟩
  have d1 : decide (100 < xs.length) = false := decide_eq_false h1
  go_enter Try.func4, Try.ntmps4
  go_wp2_with fail
  refine (readInt_walk _ xs _ HB.out (by omega) HX.out HL.out).mono ?_
  intro e w1 h4
  have g1 : w.grownBy w1 none := h4.1
  have hst : RSt 33 w.heap.size (w1.alloc (.cells #[.slice ao xs.length cap, .int .i64 0] 33)) w1.heap.size (.ok xs) :=
    ⟨_, xs, ⟨rfl, heap_at rfl⟩, HB.out.kept (grown_trans g1 (World.grownBy_alloc _ _ _)) (by cases (Value.slice ao xs.length cap).ownBlock <;> simp), ⟨HL.out, g1.size⟩, HX.out, by omega⟩
  have HST := hid hst
  have HG1 := hid g1
  clear hst g1
  cases hp : pInt xs with
  | error n =>
    obtain ⟨_, rfl⟩ := h4.err hp
    have HP := hid hp
    clear h4 hp
    go_wp2_with fail
    refine (rint_walk _ _ _ HST.out).mono ?_
    rintro e w2 ⟨v2, x, s', rfl, ⟨rfl, _⟩, hg2, hst2, hrel⟩
    obtain rfl := hrel.err_of HP.out
    obtain ⟨v3, l3, ⟨he, he2, hrow⟩, _⟩ := hst2
    obtain ⟨r0, r1, _, _⟩ := row2 hrow
    have be' : ((n : Int) != 0) = true := by simp; omega
    have HG2 := hid hg2
    clear hrel he he2 hrow hg2
    go_wp2_with (go_at_call 18; refine (awake_walk _).mono ?_; rintro e w' ⟨rfl, hg⟩)
    go_ret
    exact ⟨rfl, grown_trans (grown_trans HG1.out (grown_newR (World.grownBy_alloc _ _ _) HG2.out (Nat.le_refl _))) hg⟩
  | ok y =>
    obtain ⟨x, ys⟩ := y
    obtain ⟨_, v, rv, rfl, ⟨rfl, _⟩, hrest, _⟩ := h4.ok hp
    obtain ⟨ao3, cap3, rfl, _, _⟩ := hrest.shape
    have HP := hid hp
    have HRT := hid hrest
    clear h4 hp hrest
    go_wp2_with fail
    refine (rint_walk _ _ _ HST.out).mono ?_
    rintro e w2 ⟨v2, x2, s', rfl, ⟨rfl, _⟩, hg2, hst2, hrel⟩
    obtain ⟨rfl, rfl⟩ := hrel.ok_of HP.out
    obtain ⟨v3, l3, ⟨rfl, hrow⟩, hs3, _⟩ := hst2
    obtain ⟨r0, r1, _, _⟩ := row2 hrow
    have HG2 := hid hg2
    have HROW := hid hrow
    clear hrel hrow hg2
    go_wp2
    have g12 : w1.grownBy w2 none := grown_newR (World.grownBy_alloc _ _ _) HG2.out (Nat.le_refl _)
    have hrest := HRT.out.kept g12 (by cases (Value.slice ao3 ys.length cap3).ownBlock <;> simp)
    have hs := hs3
    have hc : w2.rangeAt w1.heap.size 0 [v3] := fun j u hj => by
      cases j with
      | zero => simp at hj; subst hj; exact r0
      | succ j => simp at hj
    refine region_list mixed (c4L ys x w1.heap.size) _ (c4_reg _) (c4_m _) rfl ⟨.inr trivial, .inr trivial, .inl rfl, .inr rfl, .inr hrest, .inr rfl, .inr rfl, .inr rfl, .inr trivial, .inr trivial, .inr trivial, .inr trivial, .inr trivial, .inr trivial, .inr trivial, .inr trivial, .inr trivial, .inr trivial, .inr trivial, .inr trivial, .inr trivial, .inr trivial, .inr trivial, .inr trivial, .inr trivial, .inr trivial, .inr trivial, .inr trivial, .inr trivial, .inr trivial, .inr trivial, .inr trivial, .inr trivial, .inr trivial, .inr trivial, .inr trivial, .inr trivial, .inr trivial, .inr trivial, .inr trivial, .inr trivial, .inr trivial, .inr trivial, .inr trivial, .inr trivial, .inr trivial, .inl rfl, .inl rfl, .inl rfl, .inl rfl, .inl rfl, .inl rfl, .inl rfl, .inl rfl, .inl rfl, .inl rfl, .inl rfl, .inl rfl, .inl rfl, .inl rfl, .inl rfl, .inl rfl, .inl rfl, .inl rfl, .inl rfl, .inl rfl, trivial⟩ (c4_ob _ ys x w1.heap.size _ v3 hs hc) ?_
    intro a w5 hg5 hd hsz hk
    have h6 := hk 2 (by show 2 < 66; decide)
    go_wp2
    refine bodyPost_ret (results_tmp rfl _ _ _) hd ?_
    exact ⟨congrArg _ h6, grown_trans (grown_trans HG1.out g12) hg5⟩
end Go.Proofs.Ytkeiffccllfkpaa
