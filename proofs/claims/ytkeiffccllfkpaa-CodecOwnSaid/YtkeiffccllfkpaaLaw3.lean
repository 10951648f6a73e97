/- The law CodecOwn: the walk. -/
import Derived.Test.YtkeiffccllfkpaaLaw0
namespace Go.Proofs.Ytkeiffccllfkpaa
open Go.RowKit
set_option linter.unusedVariables false
def c5p0 (ps0 : String) : Oper := { dst := some 29, op := Go.Op.move (Go.Operand.tmp 8), type := 22, pos := ps0, after := #[], guard := none }
def c5p1 (ps0 : String) : Oper := { dst := some 30, op := Go.Op.convert 22 9 (Go.Operand.tmp 29), type := 9, pos := ps0, after := #[{ on := 0, ground := Go.Ground.data }], guard := none }
def c5p2 (ps0 : String) : Oper := { dst := some 31, op := Go.Op.move (Go.Operand.tmp 0), type := 22, pos := ps0, after := #[], guard := none }
def c5p3 (ps0 : String) : Oper := { dst := some 32, op := Go.Op.convert 22 9 (Go.Operand.tmp 31), type := 9, pos := ps0, after := #[{ on := 2, ground := Go.Ground.data }], guard := none }
def c5p4 (ps0 : String) : Oper := { dst := some 33, op := Go.Op.move (Go.Operand.tmp 1), type := 2, pos := ps0, after := #[], guard := none }
def c5p5 (ps0 : String) : Oper := { dst := some 34, op := Go.Op.call { callee := Go.Callee.value (Go.Operand.func 22), args := #[Go.Operand.tmp 33], argTypes := #[2] }, type := 22, pos := ps0, after := #[{ on := 4, ground := Go.Ground.data }], guard := none }
def c5p6 (ps0 : String) : Oper := { dst := some 35, op := Go.Op.convert 22 9 (Go.Operand.tmp 34), type := 9, pos := ps0, after := #[{ on := 5, ground := Go.Ground.data }], guard := none }
def c5p7 (ps0 : String) : Oper := { dst := some 36, op := Go.Op.binOp Go.BinOp.add 9 (Go.Operand.tmp 32) (Go.Operand.tmp 35) 9, type := 9, pos := ps0, after := #[{ on := 3, ground := Go.Ground.data }, { on := 6, ground := Go.Ground.data }], guard := none }
def c5p8 (ps0 : String) : Oper := { dst := some 37, op := Go.Op.binOp Go.BinOp.eql 9 (Go.Operand.tmp 30) (Go.Operand.tmp 36) 9, type := 4, pos := ps0, after := #[{ on := 1, ground := Go.Ground.data }, { on := 7, ground := Go.Ground.data }], guard := none }
def c5p9 (ps0 : String) : Oper := { dst := some 38, op := Go.Op.move (Go.Operand.tmp 37), type := 4, pos := ps0, after := #[{ on := 8, ground := Go.Ground.data }, { on := 5, ground := Go.Ground.chain }], guard := none }
def c5p10 (ps0 : String) : Oper := { dst := some 39, op := Go.Op.move (Go.Operand.tmp 9), type := 22, pos := ps0, after := #[{ on := 9, ground := Go.Ground.guard }], guard := some (9, true) }
def c5p11 (ps0 : String) : Oper := { dst := some 40, op := Go.Op.convert 22 9 (Go.Operand.tmp 39), type := 9, pos := ps0, after := #[{ on := 10, ground := Go.Ground.data }, { on := 9, ground := Go.Ground.guard }], guard := some (9, true) }
def c5p12 (ps0 : String) : Oper := { dst := some 41, op := Go.Op.move (Go.Operand.tmp 0), type := 22, pos := ps0, after := #[{ on := 9, ground := Go.Ground.guard }], guard := some (9, true) }
def c5p13 (ps0 : String) : Oper := { dst := some 42, op := Go.Op.convert 22 9 (Go.Operand.tmp 41), type := 9, pos := ps0, after := #[{ on := 12, ground := Go.Ground.data }, { on := 9, ground := Go.Ground.guard }], guard := some (9, true) }
def c5p14 (ps0 : String) : Oper := { dst := some 43, op := Go.Op.move (Go.Operand.tmp 2), type := 2, pos := ps0, after := #[{ on := 9, ground := Go.Ground.guard }], guard := some (9, true) }
def c5p15 (ps0 : String) : Oper := { dst := some 44, op := Go.Op.call { callee := Go.Callee.value (Go.Operand.func 22), args := #[Go.Operand.tmp 43], argTypes := #[2] }, type := 22, pos := ps0, after := #[{ on := 14, ground := Go.Ground.data }, { on := 9, ground := Go.Ground.chain }, { on := 9, ground := Go.Ground.guard }], guard := some (9, true) }
def c5p16 (ps0 : String) : Oper := { dst := some 45, op := Go.Op.convert 22 9 (Go.Operand.tmp 44), type := 9, pos := ps0, after := #[{ on := 15, ground := Go.Ground.data }, { on := 9, ground := Go.Ground.guard }], guard := some (9, true) }
def c5p17 (ps0 : String) : Oper := { dst := some 46, op := Go.Op.binOp Go.BinOp.add 9 (Go.Operand.tmp 42) (Go.Operand.tmp 45) 9, type := 9, pos := ps0, after := #[{ on := 13, ground := Go.Ground.data }, { on := 16, ground := Go.Ground.data }, { on := 9, ground := Go.Ground.guard }], guard := some (9, true) }
def c5p18 (ps0 : String) : Oper := { dst := some 47, op := Go.Op.binOp Go.BinOp.eql 9 (Go.Operand.tmp 40) (Go.Operand.tmp 46) 9, type := 4, pos := ps0, after := #[{ on := 11, ground := Go.Ground.data }, { on := 17, ground := Go.Ground.data }, { on := 9, ground := Go.Ground.guard }], guard := some (9, true) }
def c5p19 (ps0 : String) : Oper := { dst := some 48, op := Go.Op.pick (Go.Operand.tmp 38) (Go.Operand.tmp 47) (Go.Operand.const (Go.Value.bool false)), type := 4, pos := ps0, after := #[{ on := 9, ground := Go.Ground.data }, { on := 18, ground := Go.Ground.data }], guard := none }
def c5p20 (ps0 : String) : Oper := { dst := some 49, op := Go.Op.move (Go.Operand.tmp 48), type := 4, pos := ps0, after := #[{ on := 19, ground := Go.Ground.data }, { on := 15, ground := Go.Ground.chain }], guard := none }
def c5p21 (ps0 : String) : Oper := { dst := some 50, op := Go.Op.call { callee := Go.Callee.value (Go.Operand.func 18), args := #[], argTypes := #[] }, type := 4, pos := ps0, after := #[{ on := 20, ground := Go.Ground.chain }, { on := 20, ground := Go.Ground.guard }], guard := some (20, true) }
def c5p22 (ps0 : String) : Oper := { dst := some 51, op := Go.Op.pick (Go.Operand.tmp 49) (Go.Operand.tmp 50) (Go.Operand.const (Go.Value.bool false)), type := 4, pos := ps0, after := #[{ on := 20, ground := Go.Ground.data }, { on := 21, ground := Go.Ground.data }], guard := none }
def c5p23 (ps0 : String) : Oper := { dst := some 6, op := Go.Op.assign (Go.Operand.tmp 51), type := 4, pos := ps0, after := #[{ on := 22, ground := Go.Ground.data }, { on := 21, ground := Go.Ground.chain }, { on := 0, ground := Go.Ground.phase }, { on := 1, ground := Go.Ground.phase }, { on := 2, ground := Go.Ground.phase }, { on := 3, ground := Go.Ground.phase }, { on := 4, ground := Go.Ground.phase }, { on := 5, ground := Go.Ground.phase }, { on := 6, ground := Go.Ground.phase }, { on := 7, ground := Go.Ground.phase }, { on := 8, ground := Go.Ground.phase }, { on := 9, ground := Go.Ground.phase }, { on := 10, ground := Go.Ground.phase }, { on := 11, ground := Go.Ground.phase }, { on := 12, ground := Go.Ground.phase }, { on := 13, ground := Go.Ground.phase }, { on := 14, ground := Go.Ground.phase }, { on := 15, ground := Go.Ground.phase }, { on := 16, ground := Go.Ground.phase }, { on := 17, ground := Go.Ground.phase }, { on := 18, ground := Go.Ground.phase }, { on := 19, ground := Go.Ground.phase }, { on := 20, ground := Go.Ground.phase }, { on := 21, ground := Go.Ground.phase }, { on := 22, ground := Go.Ground.phase }], guard := none }
def c5ops (ps0 : String) : List Oper := [c5p0 ps0, c5p1 ps0, c5p2 ps0, c5p3 ps0, c5p4 ps0, c5p5 ps0, c5p6 ps0, c5p7 ps0, c5p8 ps0, c5p9 ps0, c5p10 ps0, c5p11 ps0, c5p12 ps0, c5p13 ps0, c5p14 ps0, c5p15 ps0, c5p16 ps0, c5p17 ps0, c5p18 ps0, c5p19 ps0, c5p20 ps0, c5p21 ps0, c5p22 ps0, c5p23 ps0]
def c5F (xs : List Nat) (n m : Int) : List Value := [undef, (.int .i64 n), (.int .i64 m), undef, undef, undef, (.bool true), undef, undef, undef, undef, undef, undef, undef, undef, undef, undef, undef, undef, undef, undef, undef, undef, undef, undef, undef, undef, undef, undef, undef, (.string (bs (xs ++ enc n))), undef, (.string (bs xs)), (.int .i64 n), undef, (.string (bs (enc n))), (.string ((bs xs) ++ (bs (enc n)))), (.bool true), (.bool true), undef, (.string (bs (xs ++ enc m))), undef, (.string (bs xs)), (.int .i64 m), undef, (.string (bs (enc m))), (.string ((bs xs) ++ (bs (enc m)))), (.bool true), (.bool true), (.bool true), (.bool true), (.bool true)]
def c5L (xs : List Nat) (n m : Int) : List Sp := [Sp.sl xs, Sp.is (.int .i64 n), Sp.is (.int .i64 m), Sp.any, Sp.any, Sp.any, Sp.is (.bool true), Sp.any, Sp.sl (xs ++ enc n), Sp.sl (xs ++ enc m), Sp.any, Sp.any, Sp.any, Sp.any, Sp.any, Sp.any, Sp.any, Sp.any, Sp.any, Sp.any, Sp.any, Sp.any, Sp.any, Sp.any, Sp.any, Sp.any, Sp.any, Sp.any, Sp.any, Sp.sl (xs ++ enc n), Sp.is (.string (bs (xs ++ enc n))), Sp.sl xs, Sp.is (.string (bs xs)), Sp.is (.int .i64 n), Sp.sl (enc n), Sp.is (.string (bs (enc n))), Sp.is (.string ((bs xs) ++ (bs (enc n)))), Sp.is (.bool true), Sp.is (.bool true), Sp.sl (xs ++ enc m), Sp.is (.string (bs (xs ++ enc m))), Sp.sl xs, Sp.is (.string (bs xs)), Sp.is (.int .i64 m), Sp.sl (enc m), Sp.is (.string (bs (enc m))), Sp.is (.string ((bs xs) ++ (bs (enc m)))), Sp.is (.bool true), Sp.is (.bool true), Sp.is (.bool true), Sp.is (.bool true), Sp.is (.bool true)]
theorem c5_reg (ps0 : String) : regB (c5ops ps0).toArray 52 = true := by kernel_rfl
theorem c5_m (ps0 : String) : dstsB (c5ops ps0) 52 = [false, false, false, false, false, false, true, false, false, false, false, false, false, false, false, false, false, false, false, false, false, false, false, false, false, false, false, false, false, true, true, true, true, true, true, true, true, true, true, true, true, true, true, true, true, true, true, true, true, true, true, true] := by kernel_rfl
set_option maxRecDepth 100000 in
theorem c5_o0 (ps0 : String) (xs : List Nat) (n m : Int) (w0 : World) (hn : I64 n) (hm : I64 m) (hz1 : xs.length + (enc n).length ≤ 1099511627776) (hz2 : xs.length + (enc m).length ≤ 1099511627776) : Ob Try.prog (c5ops ps0).toArray (c5L xs n m) 52 w0 (c5p0 ps0) := ob_move 8 29 rfl rfl (by decide) trivial (fun _ _ h => h)
set_option maxRecDepth 100000 in
theorem c5_o1 (ps0 : String) (xs : List Nat) (n m : Int) (w0 : World) (hn : I64 n) (hm : I64 m) (hz1 : xs.length + (enc n).length ≤ 1099511627776) (hz2 : xs.length + (enc m).length ≤ 1099511627776) : Ob Try.prog (c5ops ps0).toArray (c5L xs n m) 52 w0 (c5p1 ps0) := ob_conv 29 30 22 9 5 Try.underlying22 Try.underlying5 Try.underlying9 (xs ++ enc n) rfl rfl (by decide) trivial (fun _ _ _ h => h) (fun _ => rfl)
set_option maxRecDepth 100000 in
theorem c5_o2 (ps0 : String) (xs : List Nat) (n m : Int) (w0 : World) (hn : I64 n) (hm : I64 m) (hz1 : xs.length + (enc n).length ≤ 1099511627776) (hz2 : xs.length + (enc m).length ≤ 1099511627776) : Ob Try.prog (c5ops ps0).toArray (c5L xs n m) 52 w0 (c5p2 ps0) := ob_move 0 31 rfl rfl (by decide) trivial (fun _ _ h => h)
set_option maxRecDepth 100000 in
theorem c5_o3 (ps0 : String) (xs : List Nat) (n m : Int) (w0 : World) (hn : I64 n) (hm : I64 m) (hz1 : xs.length + (enc n).length ≤ 1099511627776) (hz2 : xs.length + (enc m).length ≤ 1099511627776) : Ob Try.prog (c5ops ps0).toArray (c5L xs n m) 52 w0 (c5p3 ps0) := ob_conv 31 32 22 9 5 Try.underlying22 Try.underlying5 Try.underlying9 xs rfl rfl (by decide) trivial (fun _ _ _ h => h) (fun _ => rfl)
set_option maxRecDepth 100000 in
theorem c5_o4 (ps0 : String) (xs : List Nat) (n m : Int) (w0 : World) (hn : I64 n) (hm : I64 m) (hz1 : xs.length + (enc n).length ≤ 1099511627776) (hz2 : xs.length + (enc m).length ≤ 1099511627776) : Ob Try.prog (c5ops ps0).toArray (c5L xs n m) 52 w0 (c5p4 ps0) := ob_move 1 33 rfl rfl (by decide) trivial (fun _ _ h => h)
set_option maxRecDepth 100000 in
theorem c5_o5 (ps0 : String) (xs : List Nat) (n m : Int) (w0 : World) (hn : I64 n) (hm : I64 m) (hz1 : xs.length + (enc n).length ≤ 1099511627776) (hz2 : xs.length + (enc m).length ≤ 1099511627776) : Ob Try.prog (c5ops ps0).toArray (c5L xs n m) 52 w0 (c5p5 ps0) := ob_call2 [(.int .i64 n)] rfl rfl trivial ⟨⟨by decide, fun _ _ h => h⟩, trivial⟩ (fun w hw => (refInt_walk n w hn.1 hn.2).mono fun e w1 ⟨v, he, ho, hf⟩ => ⟨v, he, hf.1, Sl.of_own ho⟩) (enter_of Try.func22 (by kernel_rfl) rfl)
set_option maxRecDepth 100000 in
theorem c5_o6 (ps0 : String) (xs : List Nat) (n m : Int) (w0 : World) (hn : I64 n) (hm : I64 m) (hz1 : xs.length + (enc n).length ≤ 1099511627776) (hz2 : xs.length + (enc m).length ≤ 1099511627776) : Ob Try.prog (c5ops ps0).toArray (c5L xs n m) 52 w0 (c5p6 ps0) := ob_conv 34 35 22 9 5 Try.underlying22 Try.underlying5 Try.underlying9 (enc n) rfl rfl (by decide) trivial (fun _ _ _ h => h) (fun _ => rfl)
set_option maxRecDepth 100000 in
theorem c5_o7 (ps0 : String) (xs : List Nat) (n m : Int) (w0 : World) (hn : I64 n) (hm : I64 m) (hz1 : xs.length + (enc n).length ≤ 1099511627776) (hz2 : xs.length + (enc m).length ≤ 1099511627776) : Ob Try.prog (c5ops ps0).toArray (c5L xs n m) 52 w0 (c5p7 ps0) := ob_addS rfl rfl trivial ⟨by decide, fun _ _ h => h⟩ ⟨by decide, fun _ _ h => h⟩ (by rw [bs_size, bs_size]; exact hz1) (fun _ => rfl)
set_option maxRecDepth 100000 in
theorem c5_o8 (ps0 : String) (xs : List Nat) (n m : Int) (w0 : World) (hn : I64 n) (hm : I64 m) (hz1 : xs.length + (enc n).length ≤ 1099511627776) (hz2 : xs.length + (enc m).length ≤ 1099511627776) : Ob Try.prog (c5ops ps0).toArray (c5L xs n m) 52 w0 (c5p8 ps0) := ob_eqS rfl rfl trivial ⟨by decide, fun _ _ h => h⟩ ⟨by decide, fun _ _ h => h⟩ (by rw [bs_append]) (fun _ => rfl)
set_option maxRecDepth 100000 in
theorem c5_o9 (ps0 : String) (xs : List Nat) (n m : Int) (w0 : World) (hn : I64 n) (hm : I64 m) (hz1 : xs.length + (enc n).length ≤ 1099511627776) (hz2 : xs.length + (enc m).length ≤ 1099511627776) : Ob Try.prog (c5ops ps0).toArray (c5L xs n m) 52 w0 (c5p9 ps0) := ob_move 37 38 rfl rfl (by decide) trivial (fun _ _ h => h)
set_option maxRecDepth 100000 in
theorem c5_o10 (ps0 : String) (xs : List Nat) (n m : Int) (w0 : World) (hn : I64 n) (hm : I64 m) (hz1 : xs.length + (enc n).length ≤ 1099511627776) (hz2 : xs.length + (enc m).length ≤ 1099511627776) : Ob Try.prog (c5ops ps0).toArray (c5L xs n m) 52 w0 (c5p10 ps0) := ob_move 9 39 rfl rfl (by decide) ⟨38, rfl, by decide, fun _ _ h => h⟩ (fun _ _ h => h)
set_option maxRecDepth 100000 in
theorem c5_o11 (ps0 : String) (xs : List Nat) (n m : Int) (w0 : World) (hn : I64 n) (hm : I64 m) (hz1 : xs.length + (enc n).length ≤ 1099511627776) (hz2 : xs.length + (enc m).length ≤ 1099511627776) : Ob Try.prog (c5ops ps0).toArray (c5L xs n m) 52 w0 (c5p11 ps0) := ob_conv 39 40 22 9 5 Try.underlying22 Try.underlying5 Try.underlying9 (xs ++ enc m) rfl rfl (by decide) ⟨38, rfl, by decide, fun _ _ h => h⟩ (fun _ _ _ h => h) (fun _ => rfl)
set_option maxRecDepth 100000 in
theorem c5_o12 (ps0 : String) (xs : List Nat) (n m : Int) (w0 : World) (hn : I64 n) (hm : I64 m) (hz1 : xs.length + (enc n).length ≤ 1099511627776) (hz2 : xs.length + (enc m).length ≤ 1099511627776) : Ob Try.prog (c5ops ps0).toArray (c5L xs n m) 52 w0 (c5p12 ps0) := ob_move 0 41 rfl rfl (by decide) ⟨38, rfl, by decide, fun _ _ h => h⟩ (fun _ _ h => h)
set_option maxRecDepth 100000 in
theorem c5_o13 (ps0 : String) (xs : List Nat) (n m : Int) (w0 : World) (hn : I64 n) (hm : I64 m) (hz1 : xs.length + (enc n).length ≤ 1099511627776) (hz2 : xs.length + (enc m).length ≤ 1099511627776) : Ob Try.prog (c5ops ps0).toArray (c5L xs n m) 52 w0 (c5p13 ps0) := ob_conv 41 42 22 9 5 Try.underlying22 Try.underlying5 Try.underlying9 xs rfl rfl (by decide) ⟨38, rfl, by decide, fun _ _ h => h⟩ (fun _ _ _ h => h) (fun _ => rfl)
set_option maxRecDepth 100000 in
theorem c5_o14 (ps0 : String) (xs : List Nat) (n m : Int) (w0 : World) (hn : I64 n) (hm : I64 m) (hz1 : xs.length + (enc n).length ≤ 1099511627776) (hz2 : xs.length + (enc m).length ≤ 1099511627776) : Ob Try.prog (c5ops ps0).toArray (c5L xs n m) 52 w0 (c5p14 ps0) := ob_move 2 43 rfl rfl (by decide) ⟨38, rfl, by decide, fun _ _ h => h⟩ (fun _ _ h => h)
set_option maxRecDepth 100000 in
theorem c5_o15 (ps0 : String) (xs : List Nat) (n m : Int) (w0 : World) (hn : I64 n) (hm : I64 m) (hz1 : xs.length + (enc n).length ≤ 1099511627776) (hz2 : xs.length + (enc m).length ≤ 1099511627776) : Ob Try.prog (c5ops ps0).toArray (c5L xs n m) 52 w0 (c5p15 ps0) := ob_call2 [(.int .i64 m)] rfl rfl ⟨38, rfl, by decide, fun _ _ h => h⟩ ⟨⟨by decide, fun _ _ h => h⟩, trivial⟩ (fun w hw => (refInt_walk m w hm.1 hm.2).mono fun e w1 ⟨v, he, ho, hf⟩ => ⟨v, he, hf.1, Sl.of_own ho⟩) (enter_of Try.func22 (by kernel_rfl) rfl)
set_option maxRecDepth 100000 in
theorem c5_o16 (ps0 : String) (xs : List Nat) (n m : Int) (w0 : World) (hn : I64 n) (hm : I64 m) (hz1 : xs.length + (enc n).length ≤ 1099511627776) (hz2 : xs.length + (enc m).length ≤ 1099511627776) : Ob Try.prog (c5ops ps0).toArray (c5L xs n m) 52 w0 (c5p16 ps0) := ob_conv 44 45 22 9 5 Try.underlying22 Try.underlying5 Try.underlying9 (enc m) rfl rfl (by decide) ⟨38, rfl, by decide, fun _ _ h => h⟩ (fun _ _ _ h => h) (fun _ => rfl)
set_option maxRecDepth 100000 in
theorem c5_o17 (ps0 : String) (xs : List Nat) (n m : Int) (w0 : World) (hn : I64 n) (hm : I64 m) (hz1 : xs.length + (enc n).length ≤ 1099511627776) (hz2 : xs.length + (enc m).length ≤ 1099511627776) : Ob Try.prog (c5ops ps0).toArray (c5L xs n m) 52 w0 (c5p17 ps0) := ob_addS rfl rfl ⟨38, rfl, by decide, fun _ _ h => h⟩ ⟨by decide, fun _ _ h => h⟩ ⟨by decide, fun _ _ h => h⟩ (by rw [bs_size, bs_size]; exact hz2) (fun _ => rfl)
set_option maxRecDepth 100000 in
theorem c5_o18 (ps0 : String) (xs : List Nat) (n m : Int) (w0 : World) (hn : I64 n) (hm : I64 m) (hz1 : xs.length + (enc n).length ≤ 1099511627776) (hz2 : xs.length + (enc m).length ≤ 1099511627776) : Ob Try.prog (c5ops ps0).toArray (c5L xs n m) 52 w0 (c5p18 ps0) := ob_eqS rfl rfl ⟨38, rfl, by decide, fun _ _ h => h⟩ ⟨by decide, fun _ _ h => h⟩ ⟨by decide, fun _ _ h => h⟩ (by rw [bs_append]) (fun _ => rfl)
set_option maxRecDepth 100000 in
theorem c5_o19 (ps0 : String) (xs : List Nat) (n m : Int) (w0 : World) (hn : I64 n) (hm : I64 m) (hz1 : xs.length + (enc n).length ≤ 1099511627776) (hz2 : xs.length + (enc m).length ≤ 1099511627776) : Ob Try.prog (c5ops ps0).toArray (c5L xs n m) 52 w0 (c5p19 ps0) := ob_pick rfl rfl trivial ⟨by decide, fun _ _ h => h⟩ ⟨by decide, fun _ _ h => h⟩ (fun _ => rfl)
set_option maxRecDepth 100000 in
theorem c5_o20 (ps0 : String) (xs : List Nat) (n m : Int) (w0 : World) (hn : I64 n) (hm : I64 m) (hz1 : xs.length + (enc n).length ≤ 1099511627776) (hz2 : xs.length + (enc m).length ≤ 1099511627776) : Ob Try.prog (c5ops ps0).toArray (c5L xs n m) 52 w0 (c5p20 ps0) := ob_move 48 49 rfl rfl (by decide) trivial (fun _ _ h => h)
set_option maxRecDepth 100000 in
theorem c5_o21 (ps0 : String) (xs : List Nat) (n m : Int) (w0 : World) (hn : I64 n) (hm : I64 m) (hz1 : xs.length + (enc n).length ≤ 1099511627776) (hz2 : xs.length + (enc m).length ≤ 1099511627776) : Ob Try.prog (c5ops ps0).toArray (c5L xs n m) 52 w0 (c5p21 ps0) := ob_call2 [] rfl rfl ⟨49, rfl, by decide, fun _ _ h => h⟩ trivial (fun w hw => (awake_walk w).mono fun e w1 ⟨he, hg⟩ => ⟨_, he, hg, rfl⟩) (enter_of Try.func18 (by kernel_rfl) rfl)
set_option maxRecDepth 100000 in
theorem c5_o22 (ps0 : String) (xs : List Nat) (n m : Int) (w0 : World) (hn : I64 n) (hm : I64 m) (hz1 : xs.length + (enc n).length ≤ 1099511627776) (hz2 : xs.length + (enc m).length ≤ 1099511627776) : Ob Try.prog (c5ops ps0).toArray (c5L xs n m) 52 w0 (c5p22 ps0) := ob_pick rfl rfl trivial ⟨by decide, fun _ _ h => h⟩ ⟨by decide, fun _ _ h => h⟩ (fun _ => rfl)
set_option maxRecDepth 100000 in
theorem c5_o23 (ps0 : String) (xs : List Nat) (n m : Int) (w0 : World) (hn : I64 n) (hm : I64 m) (hz1 : xs.length + (enc n).length ≤ 1099511627776) (hz2 : xs.length + (enc m).length ≤ 1099511627776) : Ob Try.prog (c5ops ps0).toArray (c5L xs n m) 52 w0 (c5p23 ps0) := ob_assign 51 6 rfl rfl (by decide) trivial (fun _ _ h => h)
set_option maxRecDepth 100000 in
theorem c5_ob (ps0 : String) (xs : List Nat) (n m : Int) (w0 : World) (hn : I64 n) (hm : I64 m) (hz1 : xs.length + (enc n).length ≤ 1099511627776) (hz2 : xs.length + (enc m).length ≤ 1099511627776) : ObAll Try.prog (c5ops ps0).toArray (c5L xs n m) 52 w0 (c5ops ps0) := ⟨c5_o0 ps0 xs n m w0 hn hm hz1 hz2, c5_o1 ps0 xs n m w0 hn hm hz1 hz2, c5_o2 ps0 xs n m w0 hn hm hz1 hz2, c5_o3 ps0 xs n m w0 hn hm hz1 hz2, c5_o4 ps0 xs n m w0 hn hm hz1 hz2, c5_o5 ps0 xs n m w0 hn hm hz1 hz2, c5_o6 ps0 xs n m w0 hn hm hz1 hz2, c5_o7 ps0 xs n m w0 hn hm hz1 hz2, c5_o8 ps0 xs n m w0 hn hm hz1 hz2, c5_o9 ps0 xs n m w0 hn hm hz1 hz2, c5_o10 ps0 xs n m w0 hn hm hz1 hz2, c5_o11 ps0 xs n m w0 hn hm hz1 hz2, c5_o12 ps0 xs n m w0 hn hm hz1 hz2, c5_o13 ps0 xs n m w0 hn hm hz1 hz2, c5_o14 ps0 xs n m w0 hn hm hz1 hz2, c5_o15 ps0 xs n m w0 hn hm hz1 hz2, c5_o16 ps0 xs n m w0 hn hm hz1 hz2, c5_o17 ps0 xs n m w0 hn hm hz1 hz2, c5_o18 ps0 xs n m w0 hn hm hz1 hz2, c5_o19 ps0 xs n m w0 hn hm hz1 hz2, c5_o20 ps0 xs n m w0 hn hm hz1 hz2, c5_o21 ps0 xs n m w0 hn hm hz1 hz2, c5_o22 ps0 xs n m w0 hn hm hz1 hz2, c5_o23 ps0 xs n m w0 hn hm hz1 hz2, trivial⟩

theorem made_row {w : World} {g : Nat} {l cur : List Value} {t : TypeId} (h : w.heap[g]? = some (.cells (splice cur 0 l).toArray t (0, 0))) (cap : Nat) (hc : l.length ≤ cap) (hm : cap ≤ maxLen) : Sl w 1 (.slice (some ⟨g, 0, none⟩) l.length cap) l.length l :=
  ⟨by simp, _, _, rfl, hc, hm, fun h => (by cases h), fun a ha => by
    obtain rfl := Option.some.inj ha
    refine ⟨rfl, fun j u hu => ?_⟩
    rw [Nat.zero_add, cell_of_row w g j _ t _ h, ← hu]
    have hj := (List.getElem?_eq_some_iff.1 hu).1
    simp [splice, List.getElem?_append, hj]⟩
set_option maxRecDepth 100000 in
set_option maxHeartbeats 1000000 in
theorem codecOwn_walk (b : Value) (n m : Int) (xs : List Nat) (w : World) (hb : Sl w 1 b xs.length (bv xs)) (hbl : Lo b w.heap.size) (hn : I64 n) (hm : I64 m) :
    Calls Try.prog 5 #[b, .int .i64 n, .int .i64 m] w fun e w' => e = .returned (.bool true) ∧ w.grownBy w' none := by
  obtain ⟨ao, cap, rfl, hnc, hcm⟩ := hb.shape
  have hlen1 := enc_len hn.1 hn.2
  have hlen2 := enc_len hm.1 hm.2
  have HB := hid hb
  have HL := hid hbl
  clear hb hbl
  by_cases h1 : 100 < xs.length
  · have d1 : decide (100 < xs.length) = true := decide_eq_true h1
    go_enter Try.func5, Try.ntmps5
    go_wp2_with (go_at_call 18; refine (awake_walk _).mono ?_; rintro e w' ⟨rfl, hg⟩)
    go_ret
    exact ⟨rfl, hg⟩
  have d1 : decide (100 < xs.length) = false := decide_eq_false h1
  obtain ⟨i, hi, hz, hsz, hby⟩ := bytesT.inf
  have hmk : ∀ w : World, (Instr.makeSlice 22 (.int .i64 (xs.length : Int)) (.int .i64 ((xs.length : Int) + 40))).run Try.prog w = .ok (.slice (some ⟨w.heap.size, 0, none⟩) xs.length (xs.length + 40)) (w.alloc (.cells (madeCells (Value.int .u8 0).cells (xs.length + 40)) 5)) := fun w => by
    have := run_make (P := Try.prog) w 22 5 i (.int .u8 0) Try.underlying22 hi hz .i64 .i64 (xs.length : Int) ((xs.length : Int) + 40) (by omega) (by omega) (by rw [hby]; omega) (by omega)
    rw [this, hsz]
    have e : ((xs.length : Int) + 40).toNat = xs.length + 40 := by omega
    rw [e, Int.toNat_natCast, Nat.mul_one]
  have hu8 : (Try.prog.info? 5).map (·.size) = some 1 := by rw [hi]; simp [hsz]
  clear hz hsz hby
  have hcur : (madeCells (Value.int .u8 0).cells (xs.length + 40)).toList.length = xs.length + 40 := by simp [madeCells]
  generalize madeCells (Value.int .u8 0).cells (xs.length + 40) = cur at *
  have HC := hid hcur
  clear hcur
  have hbw := HB.out.kept (World.grownBy_alloc w (.cells cur 5) none) (by cases (Value.slice ao xs.length cap).ownBlock <;> simp)
  have hpos : 0 < (bv xs).length → (some ⟨w.heap.size, 0, none⟩ : Option Addr) = some ⟨w.heap.size, 0, none⟩ ∧ ∃ ad, ao = some ad ∧ ∀ j v, (bv xs)[j]? = some v → (w.alloc (.cells cur 5)).cell? (ad.add j) = some v := fun hp => by
    rw [bv_length] at hp
    obtain ⟨b, off, rfl, hc⟩ := hbw.at 0 (by rw [bv_length]; exact hp)
    refine ⟨rfl, _, rfl, fun j v hj => ?_⟩
    obtain ⟨hl, he⟩ := List.getElem?_eq_some_iff.1 hj
    rw [Addr.add_lit, hc j hl, he]
  have HP := hid hpos
  clear hpos hbw
  go_enter Try.func5, Try.ntmps5
  go_wp2_with (with_reducible refine wpList_copy_splice rfl (.tmp 20) (.tmp 21) _ _ rfl 5 Try.underlying22 hu8 (some ⟨w.heap.size, 0, none⟩) ao xs.length (xs.length + 40) xs.length cap rfl rfl w.heap.size 0 cur.toList 5 (by rw [Array.toArray_toList]; exact heap_at rfl) (bv xs) (by simp [bv]) HP.out (by rw [bv_length, HC.out]; omega) (fun v hv => List.all_eq_true.1 (bv_cells xs) v hv) w.heap.size w (none_below (World.grownBy_alloc w _ none)) (Nat.le_refl _) ?_)
  intro w1 hrow hbel
  have hown : Sl w1 1 (.slice (some ⟨w.heap.size, 0, none⟩) xs.length (xs.length + 40)) xs.length (bv xs) := by
    have := made_row hrow.out (xs.length + 40) (by rw [bv_length]; omega) (by unfold maxLen; omega)
    rwa [bv_length] at this
  have hlo : Lo (.slice (some ⟨w.heap.size, 0, none⟩) xs.length (xs.length + 40)) w1.heap.size := fun k hk => by
    simp [Value.ownBlock] at hk
    subst hk
    exact (Array.getElem?_eq_some_iff.1 hrow.out).1
  have g1 := below_none hbel
  have HO := hid hown
  have HLO := hid hlo
  clear hown hlo hrow hbel HP
  go_wp2_with fail
  refine (appendInt_walk _ n xs _ HO.out HLO.out hn.1 hn.2 (by omega)).mono ?_
  rintro e w2 ⟨v2, rfl, hown2, hg2⟩
  have HO2 := hid hown2
  have ho2 := HO.out.kept hg2.1 (by simp [Value.ownBlock])
  have hlo2 := HLO.out.mono hg2.1.size
  have HB2 := hid ho2
  have HL2 := hid hlo2
  clear hown2 ho2 hlo2
  go_wp2_with fail
  refine (appendInt_walk _ m xs _ HB2.out HL2.out hm.1 hm.2 (by omega)).mono ?_
  rintro e w3 ⟨v3, rfl, hown3, hg3⟩
  have hx1 := (Sl.of_own HO2.out).kept hg3.1 (by cases v2.ownBlock <;> simp [Value.ownBlock])
  have hx2 := Sl.of_own hown3
  have G3 := grown_trans g1 (grown_trans hg2.1 hg3.1)
  have hb := HB.out.kept G3 (by cases (Value.slice ao xs.length cap).ownBlock <;> simp)
  have hz1 : xs.length + (enc n).length ≤ 1099511627776 := by omega
  have hz2 : xs.length + (enc m).length ≤ 1099511627776 := by omega
  have X1 := hid hx1
  have X2 := hid hx2
  have XB := hid hb
  clear hx1 hx2 hb hown3
  go_wp2
  have hx1 := X1.out
  have hx2 := X2.out
  have hb := XB.out
  refine region_list mixed (c5L xs n m) _ (c5_reg _) (c5_m _) rfl ⟨.inr hb, .inr rfl, .inr rfl, .inr trivial, .inr trivial, .inr trivial, .inl rfl, .inr trivial, .inr hx1, .inr hx2, .inr trivial, .inr trivial, .inr trivial, .inr trivial, .inr trivial, .inr trivial, .inr trivial, .inr trivial, .inr trivial, .inr trivial, .inr trivial, .inr trivial, .inr trivial, .inr trivial, .inr trivial, .inr trivial, .inr trivial, .inr trivial, .inr trivial, .inl rfl, .inl rfl, .inl rfl, .inl rfl, .inl rfl, .inl rfl, .inl rfl, .inl rfl, .inl rfl, .inl rfl, .inl rfl, .inl rfl, .inl rfl, .inl rfl, .inl rfl, .inl rfl, .inl rfl, .inl rfl, .inl rfl, .inl rfl, .inl rfl, .inl rfl, .inl rfl, trivial⟩ (c5_ob _ xs n m _ hn hm hz1 hz2) ?_
  intro a w5 hg5 hd hsz hk
  have h6 := hk 6 (by show 6 < 52; decide)
  go_wp2
  refine bodyPost_ret (results_tmp rfl _ _ _) hd ?_
  exact ⟨congrArg _ h6, grown_trans G3 hg5⟩
end Go.Proofs.Ytkeiffccllfkpaa
