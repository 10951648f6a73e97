/- The law CodecInts: the walk. -/
import Derived.Test.YtkeiffccllfkpaaLaw0
namespace Go.Proofs.Ytkeiffccllfkpaa
open Go.RowKit
def c3p0 (ps0 : String) : Oper := { dst := some 35, op := Go.Op.move (Go.Operand.tmp 8), type := 22, pos := ps0, after := #[], guard := none }
def c3p1 (ps0 : String) : Oper := { dst := some 36, op := Go.Op.convert 22 9 (Go.Operand.tmp 35), type := 9, pos := ps0, after := #[{ on := 0, ground := Go.Ground.data }], guard := none }
def c3p2 (ps0 : String) : Oper := { dst := some 37, op := Go.Op.move (Go.Operand.tmp 7), type := 9, pos := ps0, after := #[], guard := none }
def c3p3 (ps0 : String) : Oper := { dst := some 38, op := Go.Op.move (Go.Operand.tmp 1), type := 2, pos := ps0, after := #[], guard := none }
def c3p4 (ps0 : String) : Oper := { dst := some 39, op := Go.Op.call { callee := Go.Callee.value (Go.Operand.func 22), args := #[Go.Operand.tmp 38], argTypes := #[2] }, type := 22, pos := ps0, after := #[{ on := 3, ground := Go.Ground.data }], guard := none }
def c3p5 (ps0 : String) : Oper := { dst := some 40, op := Go.Op.convert 22 9 (Go.Operand.tmp 39), type := 9, pos := ps0, after := #[{ on := 4, ground := Go.Ground.data }], guard := none }
def c3p6 (ps0 : String) : Oper := { dst := some 41, op := Go.Op.binOp Go.BinOp.add 9 (Go.Operand.tmp 37) (Go.Operand.tmp 40) 9, type := 9, pos := ps0, after := #[{ on := 2, ground := Go.Ground.data }, { on := 5, ground := Go.Ground.data }], guard := none }
def c3p7 (ps0 : String) : Oper := { dst := some 42, op := Go.Op.binOp Go.BinOp.eql 9 (Go.Operand.tmp 36) (Go.Operand.tmp 41) 9, type := 4, pos := ps0, after := #[{ on := 1, ground := Go.Ground.data }, { on := 6, ground := Go.Ground.data }], guard := none }
def c3p8 (ps0 : String) : Oper := { dst := some 43, op := Go.Op.move (Go.Operand.tmp 42), type := 4, pos := ps0, after := #[{ on := 7, ground := Go.Ground.data }, { on := 4, ground := Go.Ground.chain }], guard := none }
def c3p9 (ps0 : String) : Oper := { dst := some 44, op := Go.Op.move (Go.Operand.tmp 0), type := 22, pos := ps0, after := #[{ on := 8, ground := Go.Ground.guard }], guard := some (8, true) }
def c3p10 (ps0 : String) : Oper := { dst := some 45, op := Go.Op.convert 22 9 (Go.Operand.tmp 44), type := 9, pos := ps0, after := #[{ on := 9, ground := Go.Ground.data }, { on := 8, ground := Go.Ground.guard }], guard := some (8, true) }
def c3p11 (ps0 : String) : Oper := { dst := some 46, op := Go.Op.move (Go.Operand.tmp 7), type := 9, pos := ps0, after := #[{ on := 8, ground := Go.Ground.guard }], guard := some (8, true) }
def c3p12 (ps0 : String) : Oper := { dst := some 47, op := Go.Op.binOp Go.BinOp.eql 9 (Go.Operand.tmp 45) (Go.Operand.tmp 46) 9, type := 4, pos := ps0, after := #[{ on := 10, ground := Go.Ground.data }, { on := 11, ground := Go.Ground.data }, { on := 8, ground := Go.Ground.guard }], guard := some (8, true) }
def c3p13 (ps0 : String) : Oper := { dst := some 48, op := Go.Op.pick (Go.Operand.tmp 43) (Go.Operand.tmp 47) (Go.Operand.const (Go.Value.bool false)), type := 4, pos := ps0, after := #[{ on := 8, ground := Go.Ground.data }, { on := 12, ground := Go.Ground.data }], guard := none }
def c3p14 (ps0 : String) : Oper := { dst := some 49, op := Go.Op.move (Go.Operand.tmp 48), type := 4, pos := ps0, after := #[{ on := 13, ground := Go.Ground.data }, { on := 8, ground := Go.Ground.chain }], guard := none }
def c3p15 (ps0 : String) : Oper := { dst := some 50, op := Go.Op.move (Go.Operand.tmp 11), type := 25, pos := ps0, after := #[{ on := 14, ground := Go.Ground.guard }], guard := some (14, true) }
def c3p16 (ps0 : String) : Oper := { dst := some 51, op := Go.Op.binOp Go.BinOp.eql 25 (Go.Operand.tmp 50) (Go.Operand.const (Go.Value.int Go.IntKind.i64 0)) 25, type := 4, pos := ps0, after := #[{ on := 15, ground := Go.Ground.data }, { on := 14, ground := Go.Ground.guard }], guard := some (14, true) }
def c3p17 (ps0 : String) : Oper := { dst := some 52, op := Go.Op.pick (Go.Operand.tmp 49) (Go.Operand.tmp 51) (Go.Operand.const (Go.Value.bool false)), type := 4, pos := ps0, after := #[{ on := 14, ground := Go.Ground.data }, { on := 16, ground := Go.Ground.data }], guard := none }
def c3p18 (ps0 : String) : Oper := { dst := some 53, op := Go.Op.move (Go.Operand.tmp 52), type := 4, pos := ps0, after := #[{ on := 17, ground := Go.Ground.data }, { on := 14, ground := Go.Ground.chain }], guard := none }
def c3p19 (ps0 : String) : Oper := { dst := some 54, op := Go.Op.move (Go.Operand.tmp 9), type := 2, pos := ps0, after := #[{ on := 18, ground := Go.Ground.guard }], guard := some (18, true) }
def c3p20 (ps0 : String) : Oper := { dst := some 55, op := Go.Op.move (Go.Operand.tmp 1), type := 2, pos := ps0, after := #[{ on := 18, ground := Go.Ground.guard }], guard := some (18, true) }
def c3p21 (ps0 : String) : Oper := { dst := some 56, op := Go.Op.binOp Go.BinOp.eql 2 (Go.Operand.tmp 54) (Go.Operand.tmp 55) 2, type := 4, pos := ps0, after := #[{ on := 19, ground := Go.Ground.data }, { on := 20, ground := Go.Ground.data }, { on := 18, ground := Go.Ground.guard }], guard := some (18, true) }
def c3p22 (ps0 : String) : Oper := { dst := some 57, op := Go.Op.pick (Go.Operand.tmp 53) (Go.Operand.tmp 56) (Go.Operand.const (Go.Value.bool false)), type := 4, pos := ps0, after := #[{ on := 18, ground := Go.Ground.data }, { on := 21, ground := Go.Ground.data }], guard := none }
def c3p23 (ps0 : String) : Oper := { dst := some 58, op := Go.Op.move (Go.Operand.tmp 57), type := 4, pos := ps0, after := #[{ on := 22, ground := Go.Ground.data }, { on := 18, ground := Go.Ground.chain }], guard := none }
def c3p24 (ps0 : String) : Oper := { dst := some 59, op := Go.Op.move (Go.Operand.tmp 10), type := 22, pos := ps0, after := #[{ on := 23, ground := Go.Ground.guard }], guard := some (23, true) }
def c3p25 (ps0 : String) : Oper := { dst := some 60, op := Go.Op.convert 22 9 (Go.Operand.tmp 59), type := 9, pos := ps0, after := #[{ on := 24, ground := Go.Ground.data }, { on := 23, ground := Go.Ground.guard }], guard := some (23, true) }
def c3p26 (ps0 : String) : Oper := { dst := some 61, op := Go.Op.move (Go.Operand.tmp 2), type := 22, pos := ps0, after := #[{ on := 23, ground := Go.Ground.guard }], guard := some (23, true) }
def c3p27 (ps0 : String) : Oper := { dst := some 62, op := Go.Op.convert 22 9 (Go.Operand.tmp 61), type := 9, pos := ps0, after := #[{ on := 26, ground := Go.Ground.data }, { on := 23, ground := Go.Ground.guard }], guard := some (23, true) }
def c3p28 (ps0 : String) : Oper := { dst := some 63, op := Go.Op.binOp Go.BinOp.eql 9 (Go.Operand.tmp 60) (Go.Operand.tmp 62) 9, type := 4, pos := ps0, after := #[{ on := 25, ground := Go.Ground.data }, { on := 27, ground := Go.Ground.data }, { on := 23, ground := Go.Ground.guard }], guard := some (23, true) }
def c3p29 (ps0 : String) : Oper := { dst := some 64, op := Go.Op.pick (Go.Operand.tmp 58) (Go.Operand.tmp 63) (Go.Operand.const (Go.Value.bool false)), type := 4, pos := ps0, after := #[{ on := 23, ground := Go.Ground.data }, { on := 28, ground := Go.Ground.data }], guard := none }
def c3p30 (ps0 : String) : Oper := { dst := some 65, op := Go.Op.move (Go.Operand.tmp 64), type := 4, pos := ps0, after := #[{ on := 29, ground := Go.Ground.data }, { on := 23, ground := Go.Ground.chain }], guard := none }
def c3p31 (ps0 : String) : Oper := { dst := some 66, op := Go.Op.call { callee := Go.Callee.value (Go.Operand.func 18), args := #[], argTypes := #[] }, type := 4, pos := ps0, after := #[{ on := 30, ground := Go.Ground.chain }, { on := 30, ground := Go.Ground.guard }], guard := some (30, true) }
def c3p32 (ps0 : String) : Oper := { dst := some 67, op := Go.Op.pick (Go.Operand.tmp 65) (Go.Operand.tmp 66) (Go.Operand.const (Go.Value.bool false)), type := 4, pos := ps0, after := #[{ on := 30, ground := Go.Ground.data }, { on := 31, ground := Go.Ground.data }], guard := none }
def c3p33 (ps0 : String) : Oper := { dst := some 6, op := Go.Op.assign (Go.Operand.tmp 67), type := 4, pos := ps0, after := #[{ on := 32, ground := Go.Ground.data }, { on := 31, ground := Go.Ground.chain }, { on := 0, ground := Go.Ground.phase }, { on := 1, ground := Go.Ground.phase }, { on := 2, ground := Go.Ground.phase }, { on := 3, ground := Go.Ground.phase }, { on := 4, ground := Go.Ground.phase }, { on := 5, ground := Go.Ground.phase }, { on := 6, ground := Go.Ground.phase }, { on := 7, ground := Go.Ground.phase }, { on := 8, ground := Go.Ground.phase }, { on := 9, ground := Go.Ground.phase }, { on := 10, ground := Go.Ground.phase }, { on := 11, ground := Go.Ground.phase }, { on := 12, ground := Go.Ground.phase }, { on := 13, ground := Go.Ground.phase }, { on := 14, ground := Go.Ground.phase }, { on := 15, ground := Go.Ground.phase }, { on := 16, ground := Go.Ground.phase }, { on := 17, ground := Go.Ground.phase }, { on := 18, ground := Go.Ground.phase }, { on := 19, ground := Go.Ground.phase }, { on := 20, ground := Go.Ground.phase }, { on := 21, ground := Go.Ground.phase }, { on := 22, ground := Go.Ground.phase }, { on := 23, ground := Go.Ground.phase }, { on := 24, ground := Go.Ground.phase }, { on := 25, ground := Go.Ground.phase }, { on := 26, ground := Go.Ground.phase }, { on := 27, ground := Go.Ground.phase }, { on := 28, ground := Go.Ground.phase }, { on := 29, ground := Go.Ground.phase }, { on := 30, ground := Go.Ground.phase }, { on := 31, ground := Go.Ground.phase }, { on := 32, ground := Go.Ground.phase }], guard := none }
def c3ops (ps0 : String) : List Oper := [c3p0 ps0, c3p1 ps0, c3p2 ps0, c3p3 ps0, c3p4 ps0, c3p5 ps0, c3p6 ps0, c3p7 ps0, c3p8 ps0, c3p9 ps0, c3p10 ps0, c3p11 ps0, c3p12 ps0, c3p13 ps0, c3p14 ps0, c3p15 ps0, c3p16 ps0, c3p17 ps0, c3p18 ps0, c3p19 ps0, c3p20 ps0, c3p21 ps0, c3p22 ps0, c3p23 ps0, c3p24 ps0, c3p25 ps0, c3p26 ps0, c3p27 ps0, c3p28 ps0, c3p29 ps0, c3p30 ps0, c3p31 ps0, c3p32 ps0, c3p33 ps0]
def c3F (xs ys : List Nat) (n : Int) : List Value := [undef, (.int .i64 n), undef, undef, undef, undef, (.bool true), (.string (bs xs)), undef, (.int .i64 n), undef, (.int .i64 0), undef, undef, undef, undef, undef, undef, undef, undef, undef, undef, undef, undef, undef, undef, undef, undef, undef, undef, undef, undef, undef, undef, undef, undef, (.string (bs (xs ++ enc n))), (.string (bs xs)), (.int .i64 n), undef, (.string (bs (enc n))), (.string ((bs xs) ++ (bs (enc n)))), (.bool true), (.bool true), undef, (.string (bs xs)), (.string (bs xs)), (.bool true), (.bool true), (.bool true), (.int .i64 0), (.bool true), (.bool true), (.bool true), (.int .i64 n), (.int .i64 n), (.bool true), (.bool true), (.bool true), undef, (.string (bs ys)), undef, (.string (bs ys)), (.bool true), (.bool true), (.bool true), (.bool true), (.bool true)]
def c3L (xs ys : List Nat) (n : Int) : List Sp := [Sp.sl xs, Sp.is (.int .i64 n), Sp.sl ys, Sp.any, Sp.any, Sp.any, Sp.is (.bool true), Sp.is (.string (bs xs)), Sp.sl (xs ++ enc n), Sp.is (.int .i64 n), Sp.sl ys, Sp.is (.int .i64 0), Sp.any, Sp.any, Sp.any, Sp.any, Sp.any, Sp.any, Sp.any, Sp.any, Sp.any, Sp.any, Sp.any, Sp.any, Sp.any, Sp.any, Sp.any, Sp.any, Sp.any, Sp.any, Sp.any, Sp.any, Sp.any, Sp.any, Sp.any, Sp.sl (xs ++ enc n), Sp.is (.string (bs (xs ++ enc n))), Sp.is (.string (bs xs)), Sp.is (.int .i64 n), Sp.sl (enc n), Sp.is (.string (bs (enc n))), Sp.is (.string ((bs xs) ++ (bs (enc n)))), Sp.is (.bool true), Sp.is (.bool true), Sp.sl xs, Sp.is (.string (bs xs)), Sp.is (.string (bs xs)), Sp.is (.bool true), Sp.is (.bool true), Sp.is (.bool true), Sp.is (.int .i64 0), Sp.is (.bool true), Sp.is (.bool true), Sp.is (.bool true), Sp.is (.int .i64 n), Sp.is (.int .i64 n), Sp.is (.bool true), Sp.is (.bool true), Sp.is (.bool true), Sp.sl ys, Sp.is (.string (bs ys)), Sp.sl ys, Sp.is (.string (bs ys)), Sp.is (.bool true), Sp.is (.bool true), Sp.is (.bool true), Sp.is (.bool true), Sp.is (.bool true)]
theorem c3_reg (ps0 : String) : regB (c3ops ps0).toArray 68 = true := by kernel_rfl
theorem c3_m (ps0 : String) : dstsB (c3ops ps0) 68 = [false, false, false, false, false, false, true, false, false, false, false, false, false, false, false, false, false, false, false, false, false, false, false, false, false, false, false, false, false, false, false, false, false, false, false, true, true, true, true, true, true, true, true, true, true, true, true, true, true, true, true, true, true, true, true, true, true, true, true, true, true, true, true, true, true, true, true, true] := by kernel_rfl
set_option maxRecDepth 100000 in
theorem c3_o0 (ps0 : String) (xs ys : List Nat) (n : Int) (hn : I64 n) (hz : xs.length + (enc n).length ≤ 1099511627776) (w0 : World) : Ob Try.prog (c3ops ps0).toArray (c3L xs ys n) 68 w0 (c3p0 ps0) := ob_move 8 35 rfl rfl (by decide) trivial (fun _ _ h => h)
set_option maxRecDepth 100000 in
theorem c3_o1 (ps0 : String) (xs ys : List Nat) (n : Int) (hn : I64 n) (hz : xs.length + (enc n).length ≤ 1099511627776) (w0 : World) : Ob Try.prog (c3ops ps0).toArray (c3L xs ys n) 68 w0 (c3p1 ps0) := ob_conv 35 36 22 9 5 Try.underlying22 Try.underlying5 Try.underlying9 (xs ++ enc n) rfl rfl (by decide) trivial (fun _ _ _ h => h) (fun _ => rfl)
set_option maxRecDepth 100000 in
theorem c3_o2 (ps0 : String) (xs ys : List Nat) (n : Int) (hn : I64 n) (hz : xs.length + (enc n).length ≤ 1099511627776) (w0 : World) : Ob Try.prog (c3ops ps0).toArray (c3L xs ys n) 68 w0 (c3p2 ps0) := ob_move 7 37 rfl rfl (by decide) trivial (fun _ _ h => h)
set_option maxRecDepth 100000 in
theorem c3_o3 (ps0 : String) (xs ys : List Nat) (n : Int) (hn : I64 n) (hz : xs.length + (enc n).length ≤ 1099511627776) (w0 : World) : Ob Try.prog (c3ops ps0).toArray (c3L xs ys n) 68 w0 (c3p3 ps0) := ob_move 1 38 rfl rfl (by decide) trivial (fun _ _ h => h)
set_option maxRecDepth 100000 in
theorem c3_o4 (ps0 : String) (xs ys : List Nat) (n : Int) (hn : I64 n) (hz : xs.length + (enc n).length ≤ 1099511627776) (w0 : World) : Ob Try.prog (c3ops ps0).toArray (c3L xs ys n) 68 w0 (c3p4 ps0) := ob_call2 [(.int .i64 n)] rfl rfl trivial ⟨⟨by decide, fun _ _ h => h⟩, trivial⟩ (fun w hw => (refInt_walk n w hn.1 hn.2).mono fun e w1 ⟨v, he, ho, hf⟩ => ⟨v, he, hf.1, Sl.of_own ho⟩) (enter_of Try.func22 (by kernel_rfl) rfl)
set_option maxRecDepth 100000 in
theorem c3_o5 (ps0 : String) (xs ys : List Nat) (n : Int) (hn : I64 n) (hz : xs.length + (enc n).length ≤ 1099511627776) (w0 : World) : Ob Try.prog (c3ops ps0).toArray (c3L xs ys n) 68 w0 (c3p5 ps0) := ob_conv 39 40 22 9 5 Try.underlying22 Try.underlying5 Try.underlying9 (enc n) rfl rfl (by decide) trivial (fun _ _ _ h => h) (fun _ => rfl)
set_option maxRecDepth 100000 in
theorem c3_o6 (ps0 : String) (xs ys : List Nat) (n : Int) (hn : I64 n) (hz : xs.length + (enc n).length ≤ 1099511627776) (w0 : World) : Ob Try.prog (c3ops ps0).toArray (c3L xs ys n) 68 w0 (c3p6 ps0) := ob_addS rfl rfl trivial ⟨by decide, fun _ _ h => h⟩ ⟨by decide, fun _ _ h => h⟩ (by rw [bs_size, bs_size]; exact hz) (fun _ => rfl)
set_option maxRecDepth 100000 in
theorem c3_o7 (ps0 : String) (xs ys : List Nat) (n : Int) (hn : I64 n) (hz : xs.length + (enc n).length ≤ 1099511627776) (w0 : World) : Ob Try.prog (c3ops ps0).toArray (c3L xs ys n) 68 w0 (c3p7 ps0) := ob_eqS rfl rfl trivial ⟨by decide, fun _ _ h => h⟩ ⟨by decide, fun _ _ h => h⟩ (by rw [bs_append]) (fun _ => rfl)
set_option maxRecDepth 100000 in
theorem c3_o8 (ps0 : String) (xs ys : List Nat) (n : Int) (hn : I64 n) (hz : xs.length + (enc n).length ≤ 1099511627776) (w0 : World) : Ob Try.prog (c3ops ps0).toArray (c3L xs ys n) 68 w0 (c3p8 ps0) := ob_move 42 43 rfl rfl (by decide) trivial (fun _ _ h => h)
set_option maxRecDepth 100000 in
theorem c3_o9 (ps0 : String) (xs ys : List Nat) (n : Int) (hn : I64 n) (hz : xs.length + (enc n).length ≤ 1099511627776) (w0 : World) : Ob Try.prog (c3ops ps0).toArray (c3L xs ys n) 68 w0 (c3p9 ps0) := ob_move 0 44 rfl rfl (by decide) ⟨43, rfl, by decide, fun _ _ h => h⟩ (fun _ _ h => h)
set_option maxRecDepth 100000 in
theorem c3_o10 (ps0 : String) (xs ys : List Nat) (n : Int) (hn : I64 n) (hz : xs.length + (enc n).length ≤ 1099511627776) (w0 : World) : Ob Try.prog (c3ops ps0).toArray (c3L xs ys n) 68 w0 (c3p10 ps0) := ob_conv 44 45 22 9 5 Try.underlying22 Try.underlying5 Try.underlying9 xs rfl rfl (by decide) ⟨43, rfl, by decide, fun _ _ h => h⟩ (fun _ _ _ h => h) (fun _ => rfl)
set_option maxRecDepth 100000 in
theorem c3_o11 (ps0 : String) (xs ys : List Nat) (n : Int) (hn : I64 n) (hz : xs.length + (enc n).length ≤ 1099511627776) (w0 : World) : Ob Try.prog (c3ops ps0).toArray (c3L xs ys n) 68 w0 (c3p11 ps0) := ob_move 7 46 rfl rfl (by decide) ⟨43, rfl, by decide, fun _ _ h => h⟩ (fun _ _ h => h)
set_option maxRecDepth 100000 in
theorem c3_o12 (ps0 : String) (xs ys : List Nat) (n : Int) (hn : I64 n) (hz : xs.length + (enc n).length ≤ 1099511627776) (w0 : World) : Ob Try.prog (c3ops ps0).toArray (c3L xs ys n) 68 w0 (c3p12 ps0) := ob_eqS rfl rfl ⟨43, rfl, by decide, fun _ _ h => h⟩ ⟨by decide, fun _ _ h => h⟩ ⟨by decide, fun _ _ h => h⟩ rfl (fun _ => rfl)
set_option maxRecDepth 100000 in
theorem c3_o13 (ps0 : String) (xs ys : List Nat) (n : Int) (hn : I64 n) (hz : xs.length + (enc n).length ≤ 1099511627776) (w0 : World) : Ob Try.prog (c3ops ps0).toArray (c3L xs ys n) 68 w0 (c3p13 ps0) := ob_pick rfl rfl trivial ⟨by decide, fun _ _ h => h⟩ ⟨by decide, fun _ _ h => h⟩ (fun _ => rfl)
set_option maxRecDepth 100000 in
theorem c3_o14 (ps0 : String) (xs ys : List Nat) (n : Int) (hn : I64 n) (hz : xs.length + (enc n).length ≤ 1099511627776) (w0 : World) : Ob Try.prog (c3ops ps0).toArray (c3L xs ys n) 68 w0 (c3p14 ps0) := ob_move 48 49 rfl rfl (by decide) trivial (fun _ _ h => h)
set_option maxRecDepth 100000 in
theorem c3_o15 (ps0 : String) (xs ys : List Nat) (n : Int) (hn : I64 n) (hz : xs.length + (enc n).length ≤ 1099511627776) (w0 : World) : Ob Try.prog (c3ops ps0).toArray (c3L xs ys n) 68 w0 (c3p15 ps0) := ob_move 11 50 rfl rfl (by decide) ⟨49, rfl, by decide, fun _ _ h => h⟩ (fun _ _ h => h)
set_option maxRecDepth 100000 in
theorem c3_o16 (ps0 : String) (xs ys : List Nat) (n : Int) (hn : I64 n) (hz : xs.length + (enc n).length ≤ 1099511627776) (w0 : World) : Ob Try.prog (c3ops ps0).toArray (c3L xs ys n) 68 w0 (c3p16 ps0) := ob_eqI rfl rfl ⟨49, rfl, by decide, fun _ _ h => h⟩ ⟨by decide, fun _ _ h => h⟩ rfl rfl (fun _ => rfl)
set_option maxRecDepth 100000 in
theorem c3_o17 (ps0 : String) (xs ys : List Nat) (n : Int) (hn : I64 n) (hz : xs.length + (enc n).length ≤ 1099511627776) (w0 : World) : Ob Try.prog (c3ops ps0).toArray (c3L xs ys n) 68 w0 (c3p17 ps0) := ob_pick rfl rfl trivial ⟨by decide, fun _ _ h => h⟩ ⟨by decide, fun _ _ h => h⟩ (fun _ => rfl)
set_option maxRecDepth 100000 in
theorem c3_o18 (ps0 : String) (xs ys : List Nat) (n : Int) (hn : I64 n) (hz : xs.length + (enc n).length ≤ 1099511627776) (w0 : World) : Ob Try.prog (c3ops ps0).toArray (c3L xs ys n) 68 w0 (c3p18 ps0) := ob_move 52 53 rfl rfl (by decide) trivial (fun _ _ h => h)
set_option maxRecDepth 100000 in
theorem c3_o19 (ps0 : String) (xs ys : List Nat) (n : Int) (hn : I64 n) (hz : xs.length + (enc n).length ≤ 1099511627776) (w0 : World) : Ob Try.prog (c3ops ps0).toArray (c3L xs ys n) 68 w0 (c3p19 ps0) := ob_move 9 54 rfl rfl (by decide) ⟨53, rfl, by decide, fun _ _ h => h⟩ (fun _ _ h => h)
set_option maxRecDepth 100000 in
theorem c3_o20 (ps0 : String) (xs ys : List Nat) (n : Int) (hn : I64 n) (hz : xs.length + (enc n).length ≤ 1099511627776) (w0 : World) : Ob Try.prog (c3ops ps0).toArray (c3L xs ys n) 68 w0 (c3p20 ps0) := ob_move 1 55 rfl rfl (by decide) ⟨53, rfl, by decide, fun _ _ h => h⟩ (fun _ _ h => h)
set_option maxRecDepth 100000 in
theorem c3_o21 (ps0 : String) (xs ys : List Nat) (n : Int) (hn : I64 n) (hz : xs.length + (enc n).length ≤ 1099511627776) (w0 : World) : Ob Try.prog (c3ops ps0).toArray (c3L xs ys n) 68 w0 (c3p21 ps0) := ob_eqI rfl rfl ⟨53, rfl, by decide, fun _ _ h => h⟩ ⟨by decide, fun _ _ h => h⟩ ⟨by decide, fun _ _ h => h⟩ rfl (fun _ => rfl)
set_option maxRecDepth 100000 in
theorem c3_o22 (ps0 : String) (xs ys : List Nat) (n : Int) (hn : I64 n) (hz : xs.length + (enc n).length ≤ 1099511627776) (w0 : World) : Ob Try.prog (c3ops ps0).toArray (c3L xs ys n) 68 w0 (c3p22 ps0) := ob_pick rfl rfl trivial ⟨by decide, fun _ _ h => h⟩ ⟨by decide, fun _ _ h => h⟩ (fun _ => rfl)
set_option maxRecDepth 100000 in
theorem c3_o23 (ps0 : String) (xs ys : List Nat) (n : Int) (hn : I64 n) (hz : xs.length + (enc n).length ≤ 1099511627776) (w0 : World) : Ob Try.prog (c3ops ps0).toArray (c3L xs ys n) 68 w0 (c3p23 ps0) := ob_move 57 58 rfl rfl (by decide) trivial (fun _ _ h => h)
set_option maxRecDepth 100000 in
theorem c3_o24 (ps0 : String) (xs ys : List Nat) (n : Int) (hn : I64 n) (hz : xs.length + (enc n).length ≤ 1099511627776) (w0 : World) : Ob Try.prog (c3ops ps0).toArray (c3L xs ys n) 68 w0 (c3p24 ps0) := ob_move 10 59 rfl rfl (by decide) ⟨58, rfl, by decide, fun _ _ h => h⟩ (fun _ _ h => h)
set_option maxRecDepth 100000 in
theorem c3_o25 (ps0 : String) (xs ys : List Nat) (n : Int) (hn : I64 n) (hz : xs.length + (enc n).length ≤ 1099511627776) (w0 : World) : Ob Try.prog (c3ops ps0).toArray (c3L xs ys n) 68 w0 (c3p25 ps0) := ob_conv 59 60 22 9 5 Try.underlying22 Try.underlying5 Try.underlying9 ys rfl rfl (by decide) ⟨58, rfl, by decide, fun _ _ h => h⟩ (fun _ _ _ h => h) (fun _ => rfl)
set_option maxRecDepth 100000 in
theorem c3_o26 (ps0 : String) (xs ys : List Nat) (n : Int) (hn : I64 n) (hz : xs.length + (enc n).length ≤ 1099511627776) (w0 : World) : Ob Try.prog (c3ops ps0).toArray (c3L xs ys n) 68 w0 (c3p26 ps0) := ob_move 2 61 rfl rfl (by decide) ⟨58, rfl, by decide, fun _ _ h => h⟩ (fun _ _ h => h)
set_option maxRecDepth 100000 in
theorem c3_o27 (ps0 : String) (xs ys : List Nat) (n : Int) (hn : I64 n) (hz : xs.length + (enc n).length ≤ 1099511627776) (w0 : World) : Ob Try.prog (c3ops ps0).toArray (c3L xs ys n) 68 w0 (c3p27 ps0) := ob_conv 61 62 22 9 5 Try.underlying22 Try.underlying5 Try.underlying9 ys rfl rfl (by decide) ⟨58, rfl, by decide, fun _ _ h => h⟩ (fun _ _ _ h => h) (fun _ => rfl)
set_option maxRecDepth 100000 in
theorem c3_o28 (ps0 : String) (xs ys : List Nat) (n : Int) (hn : I64 n) (hz : xs.length + (enc n).length ≤ 1099511627776) (w0 : World) : Ob Try.prog (c3ops ps0).toArray (c3L xs ys n) 68 w0 (c3p28 ps0) := ob_eqS rfl rfl ⟨58, rfl, by decide, fun _ _ h => h⟩ ⟨by decide, fun _ _ h => h⟩ ⟨by decide, fun _ _ h => h⟩ rfl (fun _ => rfl)
set_option maxRecDepth 100000 in
theorem c3_o29 (ps0 : String) (xs ys : List Nat) (n : Int) (hn : I64 n) (hz : xs.length + (enc n).length ≤ 1099511627776) (w0 : World) : Ob Try.prog (c3ops ps0).toArray (c3L xs ys n) 68 w0 (c3p29 ps0) := ob_pick rfl rfl trivial ⟨by decide, fun _ _ h => h⟩ ⟨by decide, fun _ _ h => h⟩ (fun _ => rfl)
set_option maxRecDepth 100000 in
theorem c3_o30 (ps0 : String) (xs ys : List Nat) (n : Int) (hn : I64 n) (hz : xs.length + (enc n).length ≤ 1099511627776) (w0 : World) : Ob Try.prog (c3ops ps0).toArray (c3L xs ys n) 68 w0 (c3p30 ps0) := ob_move 64 65 rfl rfl (by decide) trivial (fun _ _ h => h)
set_option maxRecDepth 100000 in
theorem c3_o31 (ps0 : String) (xs ys : List Nat) (n : Int) (hn : I64 n) (hz : xs.length + (enc n).length ≤ 1099511627776) (w0 : World) : Ob Try.prog (c3ops ps0).toArray (c3L xs ys n) 68 w0 (c3p31 ps0) := ob_call2 [] rfl rfl ⟨65, rfl, by decide, fun _ _ h => h⟩ trivial (fun w hw => (awake_walk w).mono fun e w1 ⟨he, hg⟩ => ⟨_, he, hg, rfl⟩) (enter_of Try.func18 (by kernel_rfl) rfl)
set_option maxRecDepth 100000 in
theorem c3_o32 (ps0 : String) (xs ys : List Nat) (n : Int) (hn : I64 n) (hz : xs.length + (enc n).length ≤ 1099511627776) (w0 : World) : Ob Try.prog (c3ops ps0).toArray (c3L xs ys n) 68 w0 (c3p32 ps0) := ob_pick rfl rfl trivial ⟨by decide, fun _ _ h => h⟩ ⟨by decide, fun _ _ h => h⟩ (fun _ => rfl)
set_option maxRecDepth 100000 in
theorem c3_o33 (ps0 : String) (xs ys : List Nat) (n : Int) (hn : I64 n) (hz : xs.length + (enc n).length ≤ 1099511627776) (w0 : World) : Ob Try.prog (c3ops ps0).toArray (c3L xs ys n) 68 w0 (c3p33 ps0) := ob_assign 67 6 rfl rfl (by decide) trivial (fun _ _ h => h)
set_option maxRecDepth 100000 in
theorem c3_ob (ps0 : String) (xs ys : List Nat) (n : Int) (hn : I64 n) (hz : xs.length + (enc n).length ≤ 1099511627776) (w0 : World) : ObAll Try.prog (c3ops ps0).toArray (c3L xs ys n) 68 w0 (c3ops ps0) := ⟨c3_o0 ps0 xs ys n hn hz w0, c3_o1 ps0 xs ys n hn hz w0, c3_o2 ps0 xs ys n hn hz w0, c3_o3 ps0 xs ys n hn hz w0, c3_o4 ps0 xs ys n hn hz w0, c3_o5 ps0 xs ys n hn hz w0, c3_o6 ps0 xs ys n hn hz w0, c3_o7 ps0 xs ys n hn hz w0, c3_o8 ps0 xs ys n hn hz w0, c3_o9 ps0 xs ys n hn hz w0, c3_o10 ps0 xs ys n hn hz w0, c3_o11 ps0 xs ys n hn hz w0, c3_o12 ps0 xs ys n hn hz w0, c3_o13 ps0 xs ys n hn hz w0, c3_o14 ps0 xs ys n hn hz w0, c3_o15 ps0 xs ys n hn hz w0, c3_o16 ps0 xs ys n hn hz w0, c3_o17 ps0 xs ys n hn hz w0, c3_o18 ps0 xs ys n hn hz w0, c3_o19 ps0 xs ys n hn hz w0, c3_o20 ps0 xs ys n hn hz w0, c3_o21 ps0 xs ys n hn hz w0, c3_o22 ps0 xs ys n hn hz w0, c3_o23 ps0 xs ys n hn hz w0, c3_o24 ps0 xs ys n hn hz w0, c3_o25 ps0 xs ys n hn hz w0, c3_o26 ps0 xs ys n hn hz w0, c3_o27 ps0 xs ys n hn hz w0, c3_o28 ps0 xs ys n hn hz w0, c3_o29 ps0 xs ys n hn hz w0, c3_o30 ps0 xs ys n hn hz w0, c3_o31 ps0 xs ys n hn hz w0, c3_o32 ps0 xs ys n hn hz w0, c3_o33 ps0 xs ys n hn hz w0, trivial⟩

set_option maxRecDepth 100000 in
set_option maxHeartbeats 1000000 in
theorem codecInts_walk (b rest : Value) (n : Int) (xs ys : List Nat) (w : World) (hb : Sl w 1 b xs.length (bv xs)) (hbl : Lo b w.heap.size) (hrest : Sl w 1 rest ys.length (bv ys)) (hx : ∀ x ∈ xs, x < 256) (hy : ∀ y ∈ ys, y < 256) (hn : I64 n) :
    Calls Try.prog 3 #[b, .int .i64 n, rest] w fun e w' => e = .returned (.bool true) ∧ w.grownBy w' none := by
  obtain ⟨ao, cap, rfl, hnc, hcm⟩ := hb.shape
  obtain ⟨ao2, cap2, rfl, hnc2, hcm2⟩ := hrest.shape
  have hlen := enc_len hn.1 hn.2
  have HB := hid hb
  have HR := hid hrest
  have HL := hid hbl
  have HX := hid hx
  have HY := hid hy
  have HEN := hid (cd_int hn)
  have HEB := hid (enc_byte n)
  clear hb hrest hbl hx hy
  by_cases h1 : 100 < xs.length
  · have d1 : decide (100 < xs.length) = true := decide_eq_true h1
    go_enter Try.func3, Try.ntmps3
    go_wp2_with (go_at_call 18; refine (awake_walk _).mono ?_; rintro e w' ⟨rfl, hg⟩)
    go_ret
    exact ⟨rfl, hg⟩
  have d1 : decide (100 < xs.length) = false := decide_eq_false h1
  by_cases h2 : 100 < ys.length
  · have d2 : decide (100 < ys.length) = true := decide_eq_true h2
    go_enter Try.func3, Try.ntmps3
    go_wp2_with (go_at_call 18; refine (awake_walk _).mono ?_; rintro e w' ⟨rfl, hg⟩)
    go_ret
    exact ⟨rfl, hg⟩
  have d2 : decide (100 < ys.length) = false := decide_eq_false h2
  have hc := run_conv (P := Try.prog) 22 9 5 Try.underlying22 Try.underlying5 Try.underlying9 HB.out
  go_enter Try.func3, Try.ntmps3
  go_wp2_with fail
  clear hc
  refine (appendInt_walk _ n xs _ HB.out HL.out hn.1 hn.2 (by omega)).mono ?_
  rintro e w1 ⟨v1, rfl, hown1, hg1⟩
  have HO1 := hid hown1
  clear hown1
  go_wp2_with fail
  refine (refInt_walk n _ hn.1 hn.2).mono ?_
  rintro e w2 ⟨v2, rfl, hown2, hg2⟩
  have G2 := grown_trans hg1.1 hg2.1
  have hr2 := HR.out.kept G2 (by cases (Value.slice ao2 ys.length cap2).ownBlock <;> simp [Value.ownBlock])
  have HO2 := hid hown2
  clear hown2
  go_wp2_with fail
  refine (join_walk _ _ (enc n) ys _ (Sl.of_own HO2.out) hr2 (by omega)).mono ?_
  rintro e w3 ⟨v3, rfl, hown3, hg3⟩
  have G3 := grown_trans G2 hg3.1
  have hlo3 : Lo v3 w3.heap.size := fun k hk => (Own.lt hown3 k hk)
  have HO3 := hid hown3
  clear hown3 hr2
  go_wp2_with fail
  refine (readInt_walk _ (enc n ++ ys) _ (Sl.of_own HO3.out) (by rw [List.length_append]; omega) (fun x hx => by rcases List.mem_append.1 hx with h | h; exact HEB.out x h; exact HY.out x h) hlo3).mono ?_
  intro e w4 h4
  obtain ⟨g4, v4, rv4, rfl, ⟨rfl, _⟩, hs4, _⟩ := h4.ok (HEN.out.rt ys)
  have G4 := grown_trans G3 g4
  have g14 := grown_trans hg2.1 (grown_trans hg3.1 g4)
  clear h4 hlo3
  go_wp2_with fail
  have hx := (Sl.of_own HO1.out).kept g14 (by cases v1.ownBlock <;> simp [Value.ownBlock])
  have hb := HB.out.kept G4 (by cases (Value.slice ao xs.length cap).ownBlock <;> simp [Value.ownBlock])
  have hrest := HR.out.kept G4 (by cases (Value.slice ao2 ys.length cap2).ownBlock <;> simp [Value.ownBlock])
  have ha := hs4
  have hz : xs.length + (enc n).length ≤ 1099511627776 := by omega
  refine region_list mixed (c3L xs ys n) _ (c3_reg _) (c3_m _) rfl ⟨.inr hb, .inr rfl, .inr hrest, .inr trivial, .inr trivial, .inr trivial, .inl rfl, .inr rfl, .inr hx, .inr rfl, .inr ha, .inr rfl, .inr trivial, .inr trivial, .inr trivial, .inr trivial, .inr trivial, .inr trivial, .inr trivial, .inr trivial, .inr trivial, .inr trivial, .inr trivial, .inr trivial, .inr trivial, .inr trivial, .inr trivial, .inr trivial, .inr trivial, .inr trivial, .inr trivial, .inr trivial, .inr trivial, .inr trivial, .inr trivial, .inl rfl, .inl rfl, .inl rfl, .inl rfl, .inl rfl, .inl rfl, .inl rfl, .inl rfl, .inl rfl, .inl rfl, .inl rfl, .inl rfl, .inl rfl, .inl rfl, .inl rfl, .inl rfl, .inl rfl, .inl rfl, .inl rfl, .inl rfl, .inl rfl, .inl rfl, .inl rfl, .inl rfl, .inl rfl, .inl rfl, .inl rfl, .inl rfl, .inl rfl, .inl rfl, .inl rfl, .inl rfl, .inl rfl, trivial⟩ (c3_ob _ xs ys n hn hz _) ?_
  intro a w5 hg5 hd hs hk
  have h6 := hk 6 (by show 6 < 68; decide)
  go_wp2
  refine bodyPost_ret (results_tmp rfl _ _ _) hd ?_
  exact ⟨congrArg _ h6, grown_trans G4 hg5⟩
end Go.Proofs.Ytkeiffccllfkpaa
