/- The law CodecRows: the walk. -/
import Derived.Test.YtkeiffccllfkpaaN3
namespace Go.Proofs.Ytkeiffccllfkpaa
open Go.RowKit

set_option linter.unusedVariables false
def c8ap0 (ps0 : String) : Oper := { dst := some 52, op := Go.Op.move (Go.Operand.tmp 10), type := 22, pos := ps0, after := #[], guard := none }
def c8ap1 (ps0 : String) : Oper := { dst := some 53, op := Go.Op.convert 22 9 (Go.Operand.tmp 52), type := 9, pos := ps0, after := #[{ on := 0, ground := Go.Ground.data }], guard := none }
def c8ap2 (ps0 : String) : Oper := { dst := some 54, op := Go.Op.move (Go.Operand.tmp 0), type := 60, pos := ps0, after := #[], guard := none }
def c8ap3 (ps0 : String) : Oper := { dst := some 55, op := Go.Op.move (Go.Operand.tmp 9), type := 3, pos := ps0, after := #[], guard := none }
def c8ap4 (ps0 : String) : Oper := { dst := some 56, op := Go.Op.indexAddr 60 (Go.Operand.tmp 54) (Go.Operand.tmp 55), type := 0, pos := ps0, after := #[{ on := 2, ground := Go.Ground.data }, { on := 3, ground := Go.Ground.data }], guard := none }
def c8ap5 (ps0 : String) : Oper := { dst := some 57, op := Go.Op.load 67 (Go.Operand.tmp 56), type := 67, pos := ps0, after := #[{ on := 4, ground := Go.Ground.data }], guard := none }
def c8ap6 (ps0 : String) : Oper := { dst := some 58, op := Go.Op.call { callee := Go.Callee.value (Go.Operand.func 42), args := #[Go.Operand.tmp 57], argTypes := #[67] }, type := 22, pos := ps0, after := #[{ on := 5, ground := Go.Ground.data }], guard := none }
def c8ap7 (ps0 : String) : Oper := { dst := some 59, op := Go.Op.convert 22 9 (Go.Operand.tmp 58), type := 9, pos := ps0, after := #[{ on := 6, ground := Go.Ground.data }], guard := none }
def c8ap8 (ps0 : String) : Oper := { dst := some 60, op := Go.Op.binOp Go.BinOp.neq 9 (Go.Operand.tmp 53) (Go.Operand.tmp 59) 9, type := 4, pos := ps0, after := #[{ on := 1, ground := Go.Ground.data }, { on := 7, ground := Go.Ground.data }], guard := none }
def c8ap9 (ps0 : String) : Oper := { dst := some 61, op := Go.Op.move (Go.Operand.tmp 60), type := 4, pos := ps0, after := #[{ on := 8, ground := Go.Ground.data }, { on := 6, ground := Go.Ground.chain }], guard := none }
def c8ap10 (ps0 : String) : Oper := { dst := some 62, op := Go.Op.move (Go.Operand.tmp 13), type := 25, pos := ps0, after := #[{ on := 9, ground := Go.Ground.guard }], guard := some (9, false) }
def c8ap11 (ps0 : String) : Oper := { dst := some 63, op := Go.Op.binOp Go.BinOp.neq 25 (Go.Operand.tmp 62) (Go.Operand.const (Go.Value.int Go.IntKind.i64 0)) 25, type := 4, pos := ps0, after := #[{ on := 10, ground := Go.Ground.data }, { on := 9, ground := Go.Ground.guard }], guard := some (9, false) }
def c8ap12 (ps0 : String) : Oper := { dst := some 64, op := Go.Op.pick (Go.Operand.tmp 61) (Go.Operand.const (Go.Value.bool true)) (Go.Operand.tmp 63), type := 4, pos := ps0, after := #[{ on := 9, ground := Go.Ground.data }, { on := 11, ground := Go.Ground.data }], guard := none }
def c8ap13 (ps0 : String) : Oper := { dst := some 65, op := Go.Op.move (Go.Operand.tmp 64), type := 4, pos := ps0, after := #[{ on := 12, ground := Go.Ground.data }, { on := 9, ground := Go.Ground.chain }], guard := none }
def c8ap14 (ps0 : String) : Oper := { dst := some 66, op := Go.Op.load 67 (Go.Operand.tmp 11), type := 67, pos := ps0, after := #[{ on := 13, ground := Go.Ground.guard }], guard := some (13, false) }
def c8ap15 (ps0 : String) : Oper := { dst := some 67, op := Go.Op.move (Go.Operand.tmp 0), type := 60, pos := ps0, after := #[{ on := 13, ground := Go.Ground.guard }], guard := some (13, false) }
def c8ap16 (ps0 : String) : Oper := { dst := some 68, op := Go.Op.move (Go.Operand.tmp 9), type := 3, pos := ps0, after := #[{ on := 13, ground := Go.Ground.guard }], guard := some (13, false) }
def c8ap17 (ps0 : String) : Oper := { dst := some 69, op := Go.Op.indexAddr 60 (Go.Operand.tmp 67) (Go.Operand.tmp 68), type := 0, pos := ps0, after := #[{ on := 15, ground := Go.Ground.data }, { on := 16, ground := Go.Ground.data }, { on := 13, ground := Go.Ground.guard }], guard := some (13, false) }
def c8ap18 (ps0 : String) : Oper := { dst := some 70, op := Go.Op.load 67 (Go.Operand.tmp 69), type := 67, pos := ps0, after := #[{ on := 17, ground := Go.Ground.data }, { on := 13, ground := Go.Ground.guard }], guard := some (13, false) }
def c8ap19 (ps0 : String) : Oper := { dst := some 71, op := Go.Op.call { callee := Go.Callee.value (Go.Operand.func 43), args := #[Go.Operand.tmp 70], argTypes := #[67] }, type := 67, pos := ps0, after := #[{ on := 18, ground := Go.Ground.data }, { on := 13, ground := Go.Ground.chain }, { on := 13, ground := Go.Ground.guard }], guard := some (13, false) }
def c8ap20 (ps0 : String) : Oper := { dst := some 72, op := Go.Op.binOp Go.BinOp.neq 67 (Go.Operand.tmp 66) (Go.Operand.tmp 71) 67, type := 4, pos := ps0, after := #[{ on := 14, ground := Go.Ground.data }, { on := 19, ground := Go.Ground.data }, { on := 13, ground := Go.Ground.guard }], guard := some (13, false) }
def c8ap21 (ps0 : String) : Oper := { dst := some 73, op := Go.Op.pick (Go.Operand.tmp 65) (Go.Operand.const (Go.Value.bool true)) (Go.Operand.tmp 72), type := 4, pos := ps0, after := #[{ on := 13, ground := Go.Ground.data }, { on := 20, ground := Go.Ground.data }], guard := none }
def c8ap22 (ps0 : String) : Oper := { dst := some 74, op := Go.Op.move (Go.Operand.tmp 73), type := 4, pos := ps0, after := #[{ on := 21, ground := Go.Ground.data }, { on := 19, ground := Go.Ground.chain }], guard := none }
def c8ap23 (ps0 : String) : Oper := { dst := some 75, op := Go.Op.move (Go.Operand.tmp 12), type := 22, pos := ps0, after := #[{ on := 22, ground := Go.Ground.guard }], guard := some (22, false) }
def c8ap24 (ps0 : String) : Oper := { dst := some 76, op := Go.Op.convert 22 9 (Go.Operand.tmp 75), type := 9, pos := ps0, after := #[{ on := 23, ground := Go.Ground.data }, { on := 22, ground := Go.Ground.guard }], guard := some (22, false) }
def c8ap25 (ps0 : String) : Oper := { dst := some 77, op := Go.Op.move (Go.Operand.tmp 1), type := 22, pos := ps0, after := #[{ on := 22, ground := Go.Ground.guard }], guard := some (22, false) }
def c8ap26 (ps0 : String) : Oper := { dst := some 78, op := Go.Op.convert 22 9 (Go.Operand.tmp 77), type := 9, pos := ps0, after := #[{ on := 25, ground := Go.Ground.data }, { on := 22, ground := Go.Ground.guard }], guard := some (22, false) }
def c8ap27 (ps0 : String) : Oper := { dst := some 79, op := Go.Op.binOp Go.BinOp.neq 9 (Go.Operand.tmp 76) (Go.Operand.tmp 78) 9, type := 4, pos := ps0, after := #[{ on := 24, ground := Go.Ground.data }, { on := 26, ground := Go.Ground.data }, { on := 22, ground := Go.Ground.guard }], guard := some (22, false) }
def c8ap28 (ps0 : String) : Oper := { dst := some 80, op := Go.Op.pick (Go.Operand.tmp 74) (Go.Operand.const (Go.Value.bool true)) (Go.Operand.tmp 79), type := 4, pos := ps0, after := #[{ on := 22, ground := Go.Ground.data }, { on := 27, ground := Go.Ground.data }], guard := none }
def c8aops (ps0 : String) : List Oper := [c8ap0 ps0, c8ap1 ps0, c8ap2 ps0, c8ap3 ps0, c8ap4 ps0, c8ap5 ps0, c8ap6 ps0, c8ap7 ps0, c8ap8 ps0, c8ap9 ps0, c8ap10 ps0, c8ap11 ps0, c8ap12 ps0, c8ap13 ps0, c8ap14 ps0, c8ap15 ps0, c8ap16 ps0, c8ap17 ps0, c8ap18 ps0, c8ap19 ps0, c8ap20 ps0, c8ap21 ps0, c8ap22 ps0, c8ap23 ps0, c8ap24 ps0, c8ap25 ps0, c8ap26 ps0, c8ap27 ps0, c8ap28 ps0]
def c8aF (x : V) (ys : List Nat) (blk off n cap k A : Nat) : List Value := [(.slice (some ⟨blk, off, none⟩) n cap), undef, undef, undef, undef, undef, undef, undef, undef, (.int .i64 k), undef, (.pointer (some ⟨A, 0, none⟩)), undef, (.int .i64 0), undef, undef, undef, undef, undef, undef, undef, undef, undef, undef, undef, undef, undef, undef, undef, undef, undef, undef, undef, undef, undef, undef, undef, undef, undef, undef, undef, undef, undef, undef, undef, undef, undef, undef, undef, undef, undef, undef, undef, (.string (bs (encV x))), (.slice (some ⟨blk, off, none⟩) n cap), (.int .i64 k), (.pointer (some ⟨blk, off + k * 3, none⟩)), (vval x), undef, (.string (bs (encV x))), (.bool false), (.bool false), (.int .i64 0), (.bool false), (.bool false), (.bool false), (vval x.clean), (.slice (some ⟨blk, off, none⟩) n cap), (.int .i64 k), (.pointer (some ⟨blk, off + k * 3, none⟩)), (vval x), (vval x.clean), (.bool false), (.bool false), (.bool false), undef, (.string (bs ys)), undef, (.string (bs ys)), (.bool false), (.bool false), undef, undef, undef, undef, undef, undef, undef, undef, undef, undef, undef, undef, undef, undef, undef, undef, undef, undef, undef, undef, undef, undef, undef, undef, undef, undef]
def c8aL (x : V) (ys : List Nat) (blk off n cap k A : Nat) : List Sp := [Sp.is (.slice (some ⟨blk, off, none⟩) n cap), Sp.sl ys, Sp.any, Sp.any, Sp.any, Sp.any, Sp.any, Sp.any, Sp.any, Sp.is (.int .i64 k), Sp.sl (encV x), Sp.is (.pointer (some ⟨A, 0, none⟩)), Sp.sl ys, Sp.is (.int .i64 0), Sp.any, Sp.any, Sp.any, Sp.any, Sp.any, Sp.any, Sp.any, Sp.any, Sp.any, Sp.any, Sp.any, Sp.any, Sp.any, Sp.any, Sp.any, Sp.any, Sp.any, Sp.any, Sp.any, Sp.any, Sp.any, Sp.any, Sp.any, Sp.any, Sp.any, Sp.any, Sp.any, Sp.any, Sp.any, Sp.any, Sp.any, Sp.any, Sp.any, Sp.any, Sp.any, Sp.any, Sp.any, Sp.any, Sp.sl (encV x), Sp.is (.string (bs (encV x))), Sp.is (.slice (some ⟨blk, off, none⟩) n cap), Sp.is (.int .i64 k), Sp.is (.pointer (some ⟨blk, off + k * 3, none⟩)), Sp.is (vval x), Sp.sl (encV x), Sp.is (.string (bs (encV x))), Sp.is (.bool false), Sp.is (.bool false), Sp.is (.int .i64 0), Sp.is (.bool false), Sp.is (.bool false), Sp.is (.bool false), Sp.is (vval x.clean), Sp.is (.slice (some ⟨blk, off, none⟩) n cap), Sp.is (.int .i64 k), Sp.is (.pointer (some ⟨blk, off + k * 3, none⟩)), Sp.is (vval x), Sp.is (vval x.clean), Sp.is (.bool false), Sp.is (.bool false), Sp.is (.bool false), Sp.sl ys, Sp.is (.string (bs ys)), Sp.sl ys, Sp.is (.string (bs ys)), Sp.is (.bool false), Sp.is (.bool false), Sp.any, Sp.any, Sp.any, Sp.any, Sp.any, Sp.any, Sp.any, Sp.any, Sp.any, Sp.any, Sp.any, Sp.any, Sp.any, Sp.any, Sp.any, Sp.any, Sp.any, Sp.any, Sp.any, Sp.any, Sp.any, Sp.any, Sp.any, Sp.any, Sp.any, Sp.any]
theorem c8a_reg (ps0 : String) : regB (c8aops ps0).toArray 107 = true := by kernel_rfl
theorem c8a_m (ps0 : String) : dstsB (c8aops ps0) 107 = [false, false, false, false, false, false, false, false, false, false, false, false, false, false, false, false, false, false, false, false, false, false, false, false, false, false, false, false, false, false, false, false, false, false, false, false, false, false, false, false, false, false, false, false, false, false, false, false, false, false, false, false, true, true, true, true, true, true, true, true, true, true, true, true, true, true, true, true, true, true, true, true, true, true, true, true, true, true, true, true, true, false, false, false, false, false, false, false, false, false, false, false, false, false, false, false, false, false, false, false, false, false, false, false, false, false, false] := by kernel_rfl
set_option maxRecDepth 100000 in
theorem c8a_o0 (ps0 : String) (x : V) (ys : List Nat) (blk off n cap k A : Nat) (w0 : World) (hk : k < n) (hn : n ≤ cap) (hm : cap ≤ 9223372036854775807) (hD : w0.rangeAt blk (off + k * 3) [.int .i64 x.kind, .int .i64 x.int, .string x.text]) (hA : w0.rangeAt A 0 [.int .i64 x.clean.kind, .int .i64 x.clean.int, .string x.clean.text]) : Ob Try.prog (c8aops ps0).toArray (c8aL x ys blk off n cap k A) 107 w0 (c8ap0 ps0) := ob_move 10 52 rfl rfl (by decide) trivial (fun _ _ h => h)
set_option maxRecDepth 100000 in
theorem c8a_o1 (ps0 : String) (x : V) (ys : List Nat) (blk off n cap k A : Nat) (w0 : World) (hk : k < n) (hn : n ≤ cap) (hm : cap ≤ 9223372036854775807) (hD : w0.rangeAt blk (off + k * 3) [.int .i64 x.kind, .int .i64 x.int, .string x.text]) (hA : w0.rangeAt A 0 [.int .i64 x.clean.kind, .int .i64 x.clean.int, .string x.clean.text]) : Ob Try.prog (c8aops ps0).toArray (c8aL x ys blk off n cap k A) 107 w0 (c8ap1 ps0) := ob_conv 52 53 22 9 5 Try.underlying22 Try.underlying5 Try.underlying9 (encV x) rfl rfl (by decide) trivial (fun _ _ _ h => h) (fun _ => rfl)
set_option maxRecDepth 100000 in
theorem c8a_o2 (ps0 : String) (x : V) (ys : List Nat) (blk off n cap k A : Nat) (w0 : World) (hk : k < n) (hn : n ≤ cap) (hm : cap ≤ 9223372036854775807) (hD : w0.rangeAt blk (off + k * 3) [.int .i64 x.kind, .int .i64 x.int, .string x.text]) (hA : w0.rangeAt A 0 [.int .i64 x.clean.kind, .int .i64 x.clean.int, .string x.clean.text]) : Ob Try.prog (c8aops ps0).toArray (c8aL x ys blk off n cap k A) 107 w0 (c8ap2 ps0) := ob_move 0 54 rfl rfl (by decide) trivial (fun _ _ h => h)
set_option maxRecDepth 100000 in
theorem c8a_o3 (ps0 : String) (x : V) (ys : List Nat) (blk off n cap k A : Nat) (w0 : World) (hk : k < n) (hn : n ≤ cap) (hm : cap ≤ 9223372036854775807) (hD : w0.rangeAt blk (off + k * 3) [.int .i64 x.kind, .int .i64 x.int, .string x.text]) (hA : w0.rangeAt A 0 [.int .i64 x.clean.kind, .int .i64 x.clean.int, .string x.clean.text]) : Ob Try.prog (c8aops ps0).toArray (c8aL x ys blk off n cap k A) 107 w0 (c8ap3 ps0) := ob_move 9 55 rfl rfl (by decide) trivial (fun _ _ h => h)
set_option maxRecDepth 100000 in
theorem c8a_o4 (ps0 : String) (x : V) (ys : List Nat) (blk off n cap k A : Nat) (w0 : World) (hk : k < n) (hn : n ≤ cap) (hm : cap ≤ 9223372036854775807) (hD : w0.rangeAt blk (off + k * 3) [.int .i64 x.kind, .int .i64 x.int, .string x.text]) (hA : w0.rangeAt A 0 [.int .i64 x.clean.kind, .int .i64 x.clean.int, .string x.clean.text]) : Ob Try.prog (c8aops ps0).toArray (c8aL x ys blk off n cap k A) 107 w0 (c8ap4 ps0) := ob_index rfl rfl trivial ⟨by decide, fun _ _ h => h⟩ ⟨by decide, fun _ _ h => h⟩ (fun w => by go_simp) (fun _ => rfl)
set_option maxRecDepth 100000 in
theorem c8a_o5 (ps0 : String) (x : V) (ys : List Nat) (blk off n cap k A : Nat) (w0 : World) (hk : k < n) (hn : n ≤ cap) (hm : cap ≤ 9223372036854775807) (hD : w0.rangeAt blk (off + k * 3) [.int .i64 x.kind, .int .i64 x.int, .string x.text]) (hA : w0.rangeAt A 0 [.int .i64 x.clean.kind, .int .i64 x.clean.int, .string x.clean.text]) : Ob Try.prog (c8aops ps0).toArray (c8aL x ys blk off n cap k A) 107 w0 (c8ap5 ps0) := ob_load rfl rfl trivial ⟨by decide, fun _ _ h => h⟩ (tyV x) hD (fun _ _ => rfl)
set_option maxRecDepth 100000 in
theorem c8a_o6 (ps0 : String) (x : V) (ys : List Nat) (blk off n cap k A : Nat) (w0 : World) (hk : k < n) (hn : n ≤ cap) (hm : cap ≤ 9223372036854775807) (hD : w0.rangeAt blk (off + k * 3) [.int .i64 x.kind, .int .i64 x.int, .string x.text]) (hA : w0.rangeAt A 0 [.int .i64 x.clean.kind, .int .i64 x.clean.int, .string x.clean.text]) : Ob Try.prog (c8aops ps0).toArray (c8aL x ys blk off n cap k A) 107 w0 (c8ap6 ps0) := ob_call2 [(vval x)] rfl rfl trivial ⟨⟨by decide, fun _ _ h => h⟩, trivial⟩ (fun w hw => (refValue_walk x w).mono fun e w1 ⟨v, he, ho, hf⟩ => ⟨v, he, hf.1, Sl.of_own ho⟩) (enter_of Try.func42 (by kernel_rfl) rfl)
set_option maxRecDepth 100000 in
theorem c8a_o7 (ps0 : String) (x : V) (ys : List Nat) (blk off n cap k A : Nat) (w0 : World) (hk : k < n) (hn : n ≤ cap) (hm : cap ≤ 9223372036854775807) (hD : w0.rangeAt blk (off + k * 3) [.int .i64 x.kind, .int .i64 x.int, .string x.text]) (hA : w0.rangeAt A 0 [.int .i64 x.clean.kind, .int .i64 x.clean.int, .string x.clean.text]) : Ob Try.prog (c8aops ps0).toArray (c8aL x ys blk off n cap k A) 107 w0 (c8ap7 ps0) := ob_conv 58 59 22 9 5 Try.underlying22 Try.underlying5 Try.underlying9 (encV x) rfl rfl (by decide) trivial (fun _ _ _ h => h) (fun _ => rfl)
set_option maxRecDepth 100000 in
theorem c8a_o8 (ps0 : String) (x : V) (ys : List Nat) (blk off n cap k A : Nat) (w0 : World) (hk : k < n) (hn : n ≤ cap) (hm : cap ≤ 9223372036854775807) (hD : w0.rangeAt blk (off + k * 3) [.int .i64 x.kind, .int .i64 x.int, .string x.text]) (hA : w0.rangeAt A 0 [.int .i64 x.clean.kind, .int .i64 x.clean.int, .string x.clean.text]) : Ob Try.prog (c8aops ps0).toArray (c8aL x ys blk off n cap k A) 107 w0 (c8ap8 ps0) := ob_neS rfl rfl trivial ⟨by decide, fun _ _ h => h⟩ ⟨by decide, fun _ _ h => h⟩ rfl (fun _ => rfl)
set_option maxRecDepth 100000 in
theorem c8a_o9 (ps0 : String) (x : V) (ys : List Nat) (blk off n cap k A : Nat) (w0 : World) (hk : k < n) (hn : n ≤ cap) (hm : cap ≤ 9223372036854775807) (hD : w0.rangeAt blk (off + k * 3) [.int .i64 x.kind, .int .i64 x.int, .string x.text]) (hA : w0.rangeAt A 0 [.int .i64 x.clean.kind, .int .i64 x.clean.int, .string x.clean.text]) : Ob Try.prog (c8aops ps0).toArray (c8aL x ys blk off n cap k A) 107 w0 (c8ap9 ps0) := ob_move 60 61 rfl rfl (by decide) trivial (fun _ _ h => h)
set_option maxRecDepth 100000 in
theorem c8a_o10 (ps0 : String) (x : V) (ys : List Nat) (blk off n cap k A : Nat) (w0 : World) (hk : k < n) (hn : n ≤ cap) (hm : cap ≤ 9223372036854775807) (hD : w0.rangeAt blk (off + k * 3) [.int .i64 x.kind, .int .i64 x.int, .string x.text]) (hA : w0.rangeAt A 0 [.int .i64 x.clean.kind, .int .i64 x.clean.int, .string x.clean.text]) : Ob Try.prog (c8aops ps0).toArray (c8aL x ys blk off n cap k A) 107 w0 (c8ap10 ps0) := ob_move 13 62 rfl rfl (by decide) ⟨61, rfl, by decide, fun _ _ h => h⟩ (fun _ _ h => h)
set_option maxRecDepth 100000 in
theorem c8a_o11 (ps0 : String) (x : V) (ys : List Nat) (blk off n cap k A : Nat) (w0 : World) (hk : k < n) (hn : n ≤ cap) (hm : cap ≤ 9223372036854775807) (hD : w0.rangeAt blk (off + k * 3) [.int .i64 x.kind, .int .i64 x.int, .string x.text]) (hA : w0.rangeAt A 0 [.int .i64 x.clean.kind, .int .i64 x.clean.int, .string x.clean.text]) : Ob Try.prog (c8aops ps0).toArray (c8aL x ys blk off n cap k A) 107 w0 (c8ap11 ps0) := ob_neI rfl rfl ⟨61, rfl, by decide, fun _ _ h => h⟩ ⟨by decide, fun _ _ h => h⟩ rfl rfl (fun _ => rfl)
set_option maxRecDepth 100000 in
theorem c8a_o12 (ps0 : String) (x : V) (ys : List Nat) (blk off n cap k A : Nat) (w0 : World) (hk : k < n) (hn : n ≤ cap) (hm : cap ≤ 9223372036854775807) (hD : w0.rangeAt blk (off + k * 3) [.int .i64 x.kind, .int .i64 x.int, .string x.text]) (hA : w0.rangeAt A 0 [.int .i64 x.clean.kind, .int .i64 x.clean.int, .string x.clean.text]) : Ob Try.prog (c8aops ps0).toArray (c8aL x ys blk off n cap k A) 107 w0 (c8ap12 ps0) := ob_pickF rfl rfl trivial ⟨by decide, fun _ _ h => h⟩ ⟨by decide, fun _ _ h => h⟩ (fun _ => rfl)
set_option maxRecDepth 100000 in
theorem c8a_o13 (ps0 : String) (x : V) (ys : List Nat) (blk off n cap k A : Nat) (w0 : World) (hk : k < n) (hn : n ≤ cap) (hm : cap ≤ 9223372036854775807) (hD : w0.rangeAt blk (off + k * 3) [.int .i64 x.kind, .int .i64 x.int, .string x.text]) (hA : w0.rangeAt A 0 [.int .i64 x.clean.kind, .int .i64 x.clean.int, .string x.clean.text]) : Ob Try.prog (c8aops ps0).toArray (c8aL x ys blk off n cap k A) 107 w0 (c8ap13 ps0) := ob_move 64 65 rfl rfl (by decide) trivial (fun _ _ h => h)
set_option maxRecDepth 100000 in
theorem c8a_o14 (ps0 : String) (x : V) (ys : List Nat) (blk off n cap k A : Nat) (w0 : World) (hk : k < n) (hn : n ≤ cap) (hm : cap ≤ 9223372036854775807) (hD : w0.rangeAt blk (off + k * 3) [.int .i64 x.kind, .int .i64 x.int, .string x.text]) (hA : w0.rangeAt A 0 [.int .i64 x.clean.kind, .int .i64 x.clean.int, .string x.clean.text]) : Ob Try.prog (c8aops ps0).toArray (c8aL x ys blk off n cap k A) 107 w0 (c8ap14 ps0) := ob_load rfl rfl ⟨65, rfl, by decide, fun _ _ h => h⟩ ⟨by decide, fun _ _ h => h⟩ (tyV x.clean) hA (fun _ _ => rfl)
set_option maxRecDepth 100000 in
theorem c8a_o15 (ps0 : String) (x : V) (ys : List Nat) (blk off n cap k A : Nat) (w0 : World) (hk : k < n) (hn : n ≤ cap) (hm : cap ≤ 9223372036854775807) (hD : w0.rangeAt blk (off + k * 3) [.int .i64 x.kind, .int .i64 x.int, .string x.text]) (hA : w0.rangeAt A 0 [.int .i64 x.clean.kind, .int .i64 x.clean.int, .string x.clean.text]) : Ob Try.prog (c8aops ps0).toArray (c8aL x ys blk off n cap k A) 107 w0 (c8ap15 ps0) := ob_move 0 67 rfl rfl (by decide) ⟨65, rfl, by decide, fun _ _ h => h⟩ (fun _ _ h => h)
set_option maxRecDepth 100000 in
theorem c8a_o16 (ps0 : String) (x : V) (ys : List Nat) (blk off n cap k A : Nat) (w0 : World) (hk : k < n) (hn : n ≤ cap) (hm : cap ≤ 9223372036854775807) (hD : w0.rangeAt blk (off + k * 3) [.int .i64 x.kind, .int .i64 x.int, .string x.text]) (hA : w0.rangeAt A 0 [.int .i64 x.clean.kind, .int .i64 x.clean.int, .string x.clean.text]) : Ob Try.prog (c8aops ps0).toArray (c8aL x ys blk off n cap k A) 107 w0 (c8ap16 ps0) := ob_move 9 68 rfl rfl (by decide) ⟨65, rfl, by decide, fun _ _ h => h⟩ (fun _ _ h => h)
set_option maxRecDepth 100000 in
theorem c8a_o17 (ps0 : String) (x : V) (ys : List Nat) (blk off n cap k A : Nat) (w0 : World) (hk : k < n) (hn : n ≤ cap) (hm : cap ≤ 9223372036854775807) (hD : w0.rangeAt blk (off + k * 3) [.int .i64 x.kind, .int .i64 x.int, .string x.text]) (hA : w0.rangeAt A 0 [.int .i64 x.clean.kind, .int .i64 x.clean.int, .string x.clean.text]) : Ob Try.prog (c8aops ps0).toArray (c8aL x ys blk off n cap k A) 107 w0 (c8ap17 ps0) := ob_index rfl rfl ⟨65, rfl, by decide, fun _ _ h => h⟩ ⟨by decide, fun _ _ h => h⟩ ⟨by decide, fun _ _ h => h⟩ (fun w => by go_simp) (fun _ => rfl)
set_option maxRecDepth 100000 in
theorem c8a_o18 (ps0 : String) (x : V) (ys : List Nat) (blk off n cap k A : Nat) (w0 : World) (hk : k < n) (hn : n ≤ cap) (hm : cap ≤ 9223372036854775807) (hD : w0.rangeAt blk (off + k * 3) [.int .i64 x.kind, .int .i64 x.int, .string x.text]) (hA : w0.rangeAt A 0 [.int .i64 x.clean.kind, .int .i64 x.clean.int, .string x.clean.text]) : Ob Try.prog (c8aops ps0).toArray (c8aL x ys blk off n cap k A) 107 w0 (c8ap18 ps0) := ob_load rfl rfl ⟨65, rfl, by decide, fun _ _ h => h⟩ ⟨by decide, fun _ _ h => h⟩ (tyV x) hD (fun _ _ => rfl)
set_option maxRecDepth 100000 in
theorem c8a_o19 (ps0 : String) (x : V) (ys : List Nat) (blk off n cap k A : Nat) (w0 : World) (hk : k < n) (hn : n ≤ cap) (hm : cap ≤ 9223372036854775807) (hD : w0.rangeAt blk (off + k * 3) [.int .i64 x.kind, .int .i64 x.int, .string x.text]) (hA : w0.rangeAt A 0 [.int .i64 x.clean.kind, .int .i64 x.clean.int, .string x.clean.text]) : Ob Try.prog (c8aops ps0).toArray (c8aL x ys blk off n cap k A) 107 w0 (c8ap19 ps0) := ob_call2 [(vval x)] rfl rfl ⟨65, rfl, by decide, fun _ _ h => h⟩ ⟨⟨by decide, fun _ _ h => h⟩, trivial⟩ (fun w hw => (rclean_walk x w).mono fun e w1 ⟨he, hg⟩ => ⟨_, he, hg, rfl⟩) (enter_of Try.func43 (by kernel_rfl) rfl)
set_option maxRecDepth 100000 in
theorem c8a_o20 (ps0 : String) (x : V) (ys : List Nat) (blk off n cap k A : Nat) (w0 : World) (hk : k < n) (hn : n ≤ cap) (hm : cap ≤ 9223372036854775807) (hD : w0.rangeAt blk (off + k * 3) [.int .i64 x.kind, .int .i64 x.int, .string x.text]) (hA : w0.rangeAt A 0 [.int .i64 x.clean.kind, .int .i64 x.clean.int, .string x.clean.text]) : Ob Try.prog (c8aops ps0).toArray (c8aL x ys blk off n cap k A) 107 w0 (c8ap20 ps0) := ob_bin rfl rfl ⟨65, rfl, by decide, fun _ _ h => h⟩ ⟨by decide, fun _ _ h => h⟩ ⟨by decide, fun _ _ h => h⟩ (fun w => val_ne x.clean _ _ w) (fun _ => rfl)
set_option maxRecDepth 100000 in
theorem c8a_o21 (ps0 : String) (x : V) (ys : List Nat) (blk off n cap k A : Nat) (w0 : World) (hk : k < n) (hn : n ≤ cap) (hm : cap ≤ 9223372036854775807) (hD : w0.rangeAt blk (off + k * 3) [.int .i64 x.kind, .int .i64 x.int, .string x.text]) (hA : w0.rangeAt A 0 [.int .i64 x.clean.kind, .int .i64 x.clean.int, .string x.clean.text]) : Ob Try.prog (c8aops ps0).toArray (c8aL x ys blk off n cap k A) 107 w0 (c8ap21 ps0) := ob_pickF rfl rfl trivial ⟨by decide, fun _ _ h => h⟩ ⟨by decide, fun _ _ h => h⟩ (fun _ => rfl)
set_option maxRecDepth 100000 in
theorem c8a_o22 (ps0 : String) (x : V) (ys : List Nat) (blk off n cap k A : Nat) (w0 : World) (hk : k < n) (hn : n ≤ cap) (hm : cap ≤ 9223372036854775807) (hD : w0.rangeAt blk (off + k * 3) [.int .i64 x.kind, .int .i64 x.int, .string x.text]) (hA : w0.rangeAt A 0 [.int .i64 x.clean.kind, .int .i64 x.clean.int, .string x.clean.text]) : Ob Try.prog (c8aops ps0).toArray (c8aL x ys blk off n cap k A) 107 w0 (c8ap22 ps0) := ob_move 73 74 rfl rfl (by decide) trivial (fun _ _ h => h)
set_option maxRecDepth 100000 in
theorem c8a_o23 (ps0 : String) (x : V) (ys : List Nat) (blk off n cap k A : Nat) (w0 : World) (hk : k < n) (hn : n ≤ cap) (hm : cap ≤ 9223372036854775807) (hD : w0.rangeAt blk (off + k * 3) [.int .i64 x.kind, .int .i64 x.int, .string x.text]) (hA : w0.rangeAt A 0 [.int .i64 x.clean.kind, .int .i64 x.clean.int, .string x.clean.text]) : Ob Try.prog (c8aops ps0).toArray (c8aL x ys blk off n cap k A) 107 w0 (c8ap23 ps0) := ob_move 12 75 rfl rfl (by decide) ⟨74, rfl, by decide, fun _ _ h => h⟩ (fun _ _ h => h)
set_option maxRecDepth 100000 in
theorem c8a_o24 (ps0 : String) (x : V) (ys : List Nat) (blk off n cap k A : Nat) (w0 : World) (hk : k < n) (hn : n ≤ cap) (hm : cap ≤ 9223372036854775807) (hD : w0.rangeAt blk (off + k * 3) [.int .i64 x.kind, .int .i64 x.int, .string x.text]) (hA : w0.rangeAt A 0 [.int .i64 x.clean.kind, .int .i64 x.clean.int, .string x.clean.text]) : Ob Try.prog (c8aops ps0).toArray (c8aL x ys blk off n cap k A) 107 w0 (c8ap24 ps0) := ob_conv 75 76 22 9 5 Try.underlying22 Try.underlying5 Try.underlying9 ys rfl rfl (by decide) ⟨74, rfl, by decide, fun _ _ h => h⟩ (fun _ _ _ h => h) (fun _ => rfl)
set_option maxRecDepth 100000 in
theorem c8a_o25 (ps0 : String) (x : V) (ys : List Nat) (blk off n cap k A : Nat) (w0 : World) (hk : k < n) (hn : n ≤ cap) (hm : cap ≤ 9223372036854775807) (hD : w0.rangeAt blk (off + k * 3) [.int .i64 x.kind, .int .i64 x.int, .string x.text]) (hA : w0.rangeAt A 0 [.int .i64 x.clean.kind, .int .i64 x.clean.int, .string x.clean.text]) : Ob Try.prog (c8aops ps0).toArray (c8aL x ys blk off n cap k A) 107 w0 (c8ap25 ps0) := ob_move 1 77 rfl rfl (by decide) ⟨74, rfl, by decide, fun _ _ h => h⟩ (fun _ _ h => h)
set_option maxRecDepth 100000 in
theorem c8a_o26 (ps0 : String) (x : V) (ys : List Nat) (blk off n cap k A : Nat) (w0 : World) (hk : k < n) (hn : n ≤ cap) (hm : cap ≤ 9223372036854775807) (hD : w0.rangeAt blk (off + k * 3) [.int .i64 x.kind, .int .i64 x.int, .string x.text]) (hA : w0.rangeAt A 0 [.int .i64 x.clean.kind, .int .i64 x.clean.int, .string x.clean.text]) : Ob Try.prog (c8aops ps0).toArray (c8aL x ys blk off n cap k A) 107 w0 (c8ap26 ps0) := ob_conv 77 78 22 9 5 Try.underlying22 Try.underlying5 Try.underlying9 ys rfl rfl (by decide) ⟨74, rfl, by decide, fun _ _ h => h⟩ (fun _ _ _ h => h) (fun _ => rfl)
set_option maxRecDepth 100000 in
theorem c8a_o27 (ps0 : String) (x : V) (ys : List Nat) (blk off n cap k A : Nat) (w0 : World) (hk : k < n) (hn : n ≤ cap) (hm : cap ≤ 9223372036854775807) (hD : w0.rangeAt blk (off + k * 3) [.int .i64 x.kind, .int .i64 x.int, .string x.text]) (hA : w0.rangeAt A 0 [.int .i64 x.clean.kind, .int .i64 x.clean.int, .string x.clean.text]) : Ob Try.prog (c8aops ps0).toArray (c8aL x ys blk off n cap k A) 107 w0 (c8ap27 ps0) := ob_neS rfl rfl ⟨74, rfl, by decide, fun _ _ h => h⟩ ⟨by decide, fun _ _ h => h⟩ ⟨by decide, fun _ _ h => h⟩ rfl (fun _ => rfl)
set_option maxRecDepth 100000 in
theorem c8a_o28 (ps0 : String) (x : V) (ys : List Nat) (blk off n cap k A : Nat) (w0 : World) (hk : k < n) (hn : n ≤ cap) (hm : cap ≤ 9223372036854775807) (hD : w0.rangeAt blk (off + k * 3) [.int .i64 x.kind, .int .i64 x.int, .string x.text]) (hA : w0.rangeAt A 0 [.int .i64 x.clean.kind, .int .i64 x.clean.int, .string x.clean.text]) : Ob Try.prog (c8aops ps0).toArray (c8aL x ys blk off n cap k A) 107 w0 (c8ap28 ps0) := ob_pickF rfl rfl trivial ⟨by decide, fun _ _ h => h⟩ ⟨by decide, fun _ _ h => h⟩ (fun _ => rfl)
set_option maxRecDepth 100000 in
theorem c8a_ob (ps0 : String) (x : V) (ys : List Nat) (blk off n cap k A : Nat) (w0 : World) (hk : k < n) (hn : n ≤ cap) (hm : cap ≤ 9223372036854775807) (hD : w0.rangeAt blk (off + k * 3) [.int .i64 x.kind, .int .i64 x.int, .string x.text]) (hA : w0.rangeAt A 0 [.int .i64 x.clean.kind, .int .i64 x.clean.int, .string x.clean.text]) : ObAll Try.prog (c8aops ps0).toArray (c8aL x ys blk off n cap k A) 107 w0 (c8aops ps0) := ⟨c8a_o0 ps0 x ys blk off n cap k A w0 hk hn hm hD hA, c8a_o1 ps0 x ys blk off n cap k A w0 hk hn hm hD hA, c8a_o2 ps0 x ys blk off n cap k A w0 hk hn hm hD hA, c8a_o3 ps0 x ys blk off n cap k A w0 hk hn hm hD hA, c8a_o4 ps0 x ys blk off n cap k A w0 hk hn hm hD hA, c8a_o5 ps0 x ys blk off n cap k A w0 hk hn hm hD hA, c8a_o6 ps0 x ys blk off n cap k A w0 hk hn hm hD hA, c8a_o7 ps0 x ys blk off n cap k A w0 hk hn hm hD hA, c8a_o8 ps0 x ys blk off n cap k A w0 hk hn hm hD hA, c8a_o9 ps0 x ys blk off n cap k A w0 hk hn hm hD hA, c8a_o10 ps0 x ys blk off n cap k A w0 hk hn hm hD hA, c8a_o11 ps0 x ys blk off n cap k A w0 hk hn hm hD hA, c8a_o12 ps0 x ys blk off n cap k A w0 hk hn hm hD hA, c8a_o13 ps0 x ys blk off n cap k A w0 hk hn hm hD hA, c8a_o14 ps0 x ys blk off n cap k A w0 hk hn hm hD hA, c8a_o15 ps0 x ys blk off n cap k A w0 hk hn hm hD hA, c8a_o16 ps0 x ys blk off n cap k A w0 hk hn hm hD hA, c8a_o17 ps0 x ys blk off n cap k A w0 hk hn hm hD hA, c8a_o18 ps0 x ys blk off n cap k A w0 hk hn hm hD hA, c8a_o19 ps0 x ys blk off n cap k A w0 hk hn hm hD hA, c8a_o20 ps0 x ys blk off n cap k A w0 hk hn hm hD hA, c8a_o21 ps0 x ys blk off n cap k A w0 hk hn hm hD hA, c8a_o22 ps0 x ys blk off n cap k A w0 hk hn hm hD hA, c8a_o23 ps0 x ys blk off n cap k A w0 hk hn hm hD hA, c8a_o24 ps0 x ys blk off n cap k A w0 hk hn hm hD hA, c8a_o25 ps0 x ys blk off n cap k A w0 hk hn hm hD hA, c8a_o26 ps0 x ys blk off n cap k A w0 hk hn hm hD hA, c8a_o27 ps0 x ys blk off n cap k A w0 hk hn hm hD hA, c8a_o28 ps0 x ys blk off n cap k A w0 hk hn hm hD hA, trivial⟩
set_option linter.unusedVariables false
def c8bp0 (ps0 : String) : Oper := { dst := some 81, op := Go.Op.move (Go.Operand.tmp 5), type := 22, pos := ps0, after := #[], guard := none }
def c8bp1 (ps0 : String) : Oper := { dst := some 82, op := Go.Op.convert 22 9 (Go.Operand.tmp 81), type := 9, pos := ps0, after := #[{ on := 0, ground := Go.Ground.data }], guard := none }
def c8bp2 (ps0 : String) : Oper := { dst := some 83, op := Go.Op.move (Go.Operand.tmp 0), type := 60, pos := ps0, after := #[], guard := none }
def c8bp3 (ps0 : String) : Oper := { dst := some 84, op := Go.Op.call { callee := Go.Callee.value (Go.Operand.func 44), args := #[Go.Operand.tmp 83], argTypes := #[60] }, type := 22, pos := ps0, after := #[{ on := 2, ground := Go.Ground.data }], guard := none }
def c8bp4 (ps0 : String) : Oper := { dst := some 85, op := Go.Op.convert 22 9 (Go.Operand.tmp 84), type := 9, pos := ps0, after := #[{ on := 3, ground := Go.Ground.data }], guard := none }
def c8bp5 (ps0 : String) : Oper := { dst := some 86, op := Go.Op.binOp Go.BinOp.eql 9 (Go.Operand.tmp 82) (Go.Operand.tmp 85) 9, type := 4, pos := ps0, after := #[{ on := 1, ground := Go.Ground.data }, { on := 4, ground := Go.Ground.data }], guard := none }
def c8bp6 (ps0 : String) : Oper := { dst := some 87, op := Go.Op.move (Go.Operand.tmp 86), type := 4, pos := ps0, after := #[{ on := 5, ground := Go.Ground.data }, { on := 3, ground := Go.Ground.chain }], guard := none }
def c8bp7 (ps0 : String) : Oper := { dst := some 88, op := Go.Op.move (Go.Operand.tmp 8), type := 25, pos := ps0, after := #[{ on := 6, ground := Go.Ground.guard }], guard := some (6, true) }
def c8bp8 (ps0 : String) : Oper := { dst := some 89, op := Go.Op.binOp Go.BinOp.eql 25 (Go.Operand.tmp 88) (Go.Operand.const (Go.Value.int Go.IntKind.i64 0)) 25, type := 4, pos := ps0, after := #[{ on := 7, ground := Go.Ground.data }, { on := 6, ground := Go.Ground.guard }], guard := some (6, true) }
def c8bp9 (ps0 : String) : Oper := { dst := some 90, op := Go.Op.pick (Go.Operand.tmp 87) (Go.Operand.tmp 89) (Go.Operand.const (Go.Value.bool false)), type := 4, pos := ps0, after := #[{ on := 6, ground := Go.Ground.data }, { on := 8, ground := Go.Ground.data }], guard := none }
def c8bp10 (ps0 : String) : Oper := { dst := some 91, op := Go.Op.move (Go.Operand.tmp 90), type := 4, pos := ps0, after := #[{ on := 9, ground := Go.Ground.data }, { on := 6, ground := Go.Ground.chain }], guard := none }
def c8bp11 (ps0 : String) : Oper := { dst := some 92, op := Go.Op.move (Go.Operand.tmp 6), type := 60, pos := ps0, after := #[{ on := 10, ground := Go.Ground.guard }], guard := some (10, true) }
def c8bp12 (ps0 : String) : Oper := { dst := some 93, op := Go.Op.move (Go.Operand.tmp 0), type := 60, pos := ps0, after := #[{ on := 10, ground := Go.Ground.guard }], guard := some (10, true) }
def c8bp13 (ps0 : String) : Oper := { dst := some 94, op := Go.Op.call { callee := Go.Callee.value (Go.Operand.func 46), args := #[Go.Operand.tmp 93], argTypes := #[60] }, type := 60, pos := ps0, after := #[{ on := 12, ground := Go.Ground.data }, { on := 10, ground := Go.Ground.chain }, { on := 10, ground := Go.Ground.guard }], guard := some (10, true) }
def c8bp14 (ps0 : String) : Oper := { dst := some 95, op := Go.Op.call { callee := Go.Callee.value (Go.Operand.func 45), args := #[Go.Operand.tmp 92, Go.Operand.tmp 94], argTypes := #[60, 60] }, type := 4, pos := ps0, after := #[{ on := 11, ground := Go.Ground.data }, { on := 13, ground := Go.Ground.data }, { on := 13, ground := Go.Ground.chain }, { on := 10, ground := Go.Ground.guard }], guard := some (10, true) }
def c8bp15 (ps0 : String) : Oper := { dst := some 96, op := Go.Op.pick (Go.Operand.tmp 91) (Go.Operand.tmp 95) (Go.Operand.const (Go.Value.bool false)), type := 4, pos := ps0, after := #[{ on := 10, ground := Go.Ground.data }, { on := 14, ground := Go.Ground.data }], guard := none }
def c8bp16 (ps0 : String) : Oper := { dst := some 97, op := Go.Op.move (Go.Operand.tmp 96), type := 4, pos := ps0, after := #[{ on := 15, ground := Go.Ground.data }, { on := 14, ground := Go.Ground.chain }], guard := none }
def c8bp17 (ps0 : String) : Oper := { dst := some 98, op := Go.Op.move (Go.Operand.tmp 7), type := 22, pos := ps0, after := #[{ on := 16, ground := Go.Ground.guard }], guard := some (16, true) }
def c8bp18 (ps0 : String) : Oper := { dst := some 99, op := Go.Op.convert 22 9 (Go.Operand.tmp 98), type := 9, pos := ps0, after := #[{ on := 17, ground := Go.Ground.data }, { on := 16, ground := Go.Ground.guard }], guard := some (16, true) }
def c8bp19 (ps0 : String) : Oper := { dst := some 100, op := Go.Op.move (Go.Operand.tmp 1), type := 22, pos := ps0, after := #[{ on := 16, ground := Go.Ground.guard }], guard := some (16, true) }
def c8bp20 (ps0 : String) : Oper := { dst := some 101, op := Go.Op.convert 22 9 (Go.Operand.tmp 100), type := 9, pos := ps0, after := #[{ on := 19, ground := Go.Ground.data }, { on := 16, ground := Go.Ground.guard }], guard := some (16, true) }
def c8bp21 (ps0 : String) : Oper := { dst := some 102, op := Go.Op.binOp Go.BinOp.eql 9 (Go.Operand.tmp 99) (Go.Operand.tmp 101) 9, type := 4, pos := ps0, after := #[{ on := 18, ground := Go.Ground.data }, { on := 20, ground := Go.Ground.data }, { on := 16, ground := Go.Ground.guard }], guard := some (16, true) }
def c8bp22 (ps0 : String) : Oper := { dst := some 103, op := Go.Op.pick (Go.Operand.tmp 97) (Go.Operand.tmp 102) (Go.Operand.const (Go.Value.bool false)), type := 4, pos := ps0, after := #[{ on := 16, ground := Go.Ground.data }, { on := 21, ground := Go.Ground.data }], guard := none }
def c8bp23 (ps0 : String) : Oper := { dst := some 104, op := Go.Op.move (Go.Operand.tmp 103), type := 4, pos := ps0, after := #[{ on := 22, ground := Go.Ground.data }, { on := 16, ground := Go.Ground.chain }], guard := none }
def c8bp24 (ps0 : String) : Oper := { dst := some 105, op := Go.Op.call { callee := Go.Callee.value (Go.Operand.func 18), args := #[], argTypes := #[] }, type := 4, pos := ps0, after := #[{ on := 23, ground := Go.Ground.chain }, { on := 23, ground := Go.Ground.guard }], guard := some (23, true) }
def c8bp25 (ps0 : String) : Oper := { dst := some 106, op := Go.Op.pick (Go.Operand.tmp 104) (Go.Operand.tmp 105) (Go.Operand.const (Go.Value.bool false)), type := 4, pos := ps0, after := #[{ on := 23, ground := Go.Ground.data }, { on := 24, ground := Go.Ground.data }], guard := none }
def c8bp26 (ps0 : String) : Oper := { dst := some 4, op := Go.Op.assign (Go.Operand.tmp 106), type := 4, pos := ps0, after := #[{ on := 25, ground := Go.Ground.data }, { on := 24, ground := Go.Ground.chain }, { on := 0, ground := Go.Ground.phase }, { on := 1, ground := Go.Ground.phase }, { on := 2, ground := Go.Ground.phase }, { on := 3, ground := Go.Ground.phase }, { on := 4, ground := Go.Ground.phase }, { on := 5, ground := Go.Ground.phase }, { on := 6, ground := Go.Ground.phase }, { on := 7, ground := Go.Ground.phase }, { on := 8, ground := Go.Ground.phase }, { on := 9, ground := Go.Ground.phase }, { on := 10, ground := Go.Ground.phase }, { on := 11, ground := Go.Ground.phase }, { on := 12, ground := Go.Ground.phase }, { on := 13, ground := Go.Ground.phase }, { on := 14, ground := Go.Ground.phase }, { on := 15, ground := Go.Ground.phase }, { on := 16, ground := Go.Ground.phase }, { on := 17, ground := Go.Ground.phase }, { on := 18, ground := Go.Ground.phase }, { on := 19, ground := Go.Ground.phase }, { on := 20, ground := Go.Ground.phase }, { on := 21, ground := Go.Ground.phase }, { on := 22, ground := Go.Ground.phase }, { on := 23, ground := Go.Ground.phase }, { on := 24, ground := Go.Ground.phase }, { on := 25, ground := Go.Ground.phase }], guard := none }
def c8bops (ps0 : String) : List Oper := [c8bp0 ps0, c8bp1 ps0, c8bp2 ps0, c8bp3 ps0, c8bp4 ps0, c8bp5 ps0, c8bp6 ps0, c8bp7 ps0, c8bp8 ps0, c8bp9 ps0, c8bp10 ps0, c8bp11 ps0, c8bp12 ps0, c8bp13 ps0, c8bp14 ps0, c8bp15 ps0, c8bp16 ps0, c8bp17 ps0, c8bp18 ps0, c8bp19 ps0, c8bp20 ps0, c8bp21 ps0, c8bp22 ps0, c8bp23 ps0, c8bp24 ps0, c8bp25 ps0, c8bp26 ps0]
def c8bF (l : List V) (ys : List Nat) (ao : Option Addr) (cap : Nat) : List Value := [(.slice ao l.length cap), undef, undef, undef, (.bool true), undef, undef, undef, (.int .i64 0), undef, undef, undef, undef, undef, undef, undef, undef, undef, undef, undef, undef, undef, undef, undef, undef, undef, undef, undef, undef, undef, undef, undef, undef, undef, undef, undef, undef, undef, undef, undef, undef, undef, undef, undef, undef, undef, undef, undef, undef, undef, undef, undef, undef, undef, undef, undef, undef, undef, undef, undef, undef, undef, undef, undef, undef, undef, undef, undef, undef, undef, undef, undef, undef, undef, undef, undef, undef, undef, undef, undef, undef, undef, (.string (bs (encRow l))), (.slice ao l.length cap), undef, (.string (bs (encRow l))), (.bool true), (.bool true), (.int .i64 0), (.bool true), (.bool true), (.bool true), undef, (.slice ao l.length cap), undef, (.bool true), (.bool true), (.bool true), undef, (.string (bs ys)), undef, (.string (bs ys)), (.bool true), (.bool true), (.bool true), (.bool true), (.bool true)]
def c8bL (l : List V) (ys : List Nat) (ao : Option Addr) (cap : Nat) : List Sp := [Sp.is (.slice ao l.length cap), Sp.sl ys, Sp.any, Sp.any, Sp.is (.bool true), Sp.sl (encRow l), Sp.slc 3 (l.map V.clean).length ((l.map V.clean).flatMap vcells), Sp.sl ys, Sp.is (.int .i64 0), Sp.any, Sp.any, Sp.any, Sp.any, Sp.any, Sp.any, Sp.any, Sp.any, Sp.any, Sp.any, Sp.any, Sp.any, Sp.any, Sp.any, Sp.any, Sp.any, Sp.any, Sp.any, Sp.any, Sp.any, Sp.any, Sp.any, Sp.any, Sp.any, Sp.any, Sp.any, Sp.any, Sp.any, Sp.any, Sp.any, Sp.any, Sp.any, Sp.any, Sp.any, Sp.any, Sp.any, Sp.any, Sp.any, Sp.any, Sp.any, Sp.any, Sp.any, Sp.any, Sp.any, Sp.any, Sp.any, Sp.any, Sp.any, Sp.any, Sp.any, Sp.any, Sp.any, Sp.any, Sp.any, Sp.any, Sp.any, Sp.any, Sp.any, Sp.any, Sp.any, Sp.any, Sp.any, Sp.any, Sp.any, Sp.any, Sp.any, Sp.any, Sp.any, Sp.any, Sp.any, Sp.any, Sp.any, Sp.sl (encRow l), Sp.is (.string (bs (encRow l))), Sp.is (.slice ao l.length cap), Sp.sl (encRow l), Sp.is (.string (bs (encRow l))), Sp.is (.bool true), Sp.is (.bool true), Sp.is (.int .i64 0), Sp.is (.bool true), Sp.is (.bool true), Sp.is (.bool true), Sp.slc 3 (l.map V.clean).length ((l.map V.clean).flatMap vcells), Sp.is (.slice ao l.length cap), Sp.slc 3 (l.map V.clean).length ((l.map V.clean).flatMap vcells), Sp.is (.bool true), Sp.is (.bool true), Sp.is (.bool true), Sp.sl ys, Sp.is (.string (bs ys)), Sp.sl ys, Sp.is (.string (bs ys)), Sp.is (.bool true), Sp.is (.bool true), Sp.is (.bool true), Sp.is (.bool true), Sp.is (.bool true)]
theorem c8b_reg (ps0 : String) : regB (c8bops ps0).toArray 107 = true := by kernel_rfl
theorem c8b_m (ps0 : String) : dstsB (c8bops ps0) 107 = [false, false, false, false, true, false, false, false, false, false, false, false, false, false, false, false, false, false, false, false, false, false, false, false, false, false, false, false, false, false, false, false, false, false, false, false, false, false, false, false, false, false, false, false, false, false, false, false, false, false, false, false, false, false, false, false, false, false, false, false, false, false, false, false, false, false, false, false, false, false, false, false, false, false, false, false, false, false, false, false, false, true, true, true, true, true, true, true, true, true, true, true, true, true, true, true, true, true, true, true, true, true, true, true, true, true, true] := by kernel_rfl
set_option maxRecDepth 100000 in
theorem c8b_o0 (ps0 : String) (l : List V) (ys : List Nat) (ao : Option Addr) (cap : Nat) (w0 : World) (h0 : DRow w0.heap.size w0 (.slice ao l.length cap) l) (hl : l.length ≤ 1000000) : Ob Try.prog (c8bops ps0).toArray (c8bL l ys ao cap) 107 w0 (c8bp0 ps0) := ob_move 5 81 rfl rfl (by decide) trivial (fun _ _ h => h)
set_option maxRecDepth 100000 in
theorem c8b_o1 (ps0 : String) (l : List V) (ys : List Nat) (ao : Option Addr) (cap : Nat) (w0 : World) (h0 : DRow w0.heap.size w0 (.slice ao l.length cap) l) (hl : l.length ≤ 1000000) : Ob Try.prog (c8bops ps0).toArray (c8bL l ys ao cap) 107 w0 (c8bp1 ps0) := ob_conv 81 82 22 9 5 Try.underlying22 Try.underlying5 Try.underlying9 (encRow l) rfl rfl (by decide) trivial (fun _ _ _ h => h) (fun _ => rfl)
set_option maxRecDepth 100000 in
theorem c8b_o2 (ps0 : String) (l : List V) (ys : List Nat) (ao : Option Addr) (cap : Nat) (w0 : World) (h0 : DRow w0.heap.size w0 (.slice ao l.length cap) l) (hl : l.length ≤ 1000000) : Ob Try.prog (c8bops ps0).toArray (c8bL l ys ao cap) 107 w0 (c8bp2 ps0) := ob_move 0 83 rfl rfl (by decide) trivial (fun _ _ h => h)
set_option maxRecDepth 100000 in
theorem c8b_o3 (ps0 : String) (l : List V) (ys : List Nat) (ao : Option Addr) (cap : Nat) (w0 : World) (h0 : DRow w0.heap.size w0 (.slice ao l.length cap) l) (hl : l.length ≤ 1000000) : Ob Try.prog (c8bops ps0).toArray (c8bL l ys ao cap) 107 w0 (c8bp3 ps0) := ob_call2 [(.slice ao l.length cap)] rfl rfl trivial ⟨⟨by decide, fun _ _ h => h⟩, trivial⟩ (fun w hw => (refRow_walk _ l w ((h0.grown hw).mono hw.size) hl).mono fun e w1 ⟨v, he, ho, hf⟩ => ⟨v, he, hf.1, Sl.of_own ho⟩) (enter_of Try.func44 (by kernel_rfl) rfl)
set_option maxRecDepth 100000 in
theorem c8b_o4 (ps0 : String) (l : List V) (ys : List Nat) (ao : Option Addr) (cap : Nat) (w0 : World) (h0 : DRow w0.heap.size w0 (.slice ao l.length cap) l) (hl : l.length ≤ 1000000) : Ob Try.prog (c8bops ps0).toArray (c8bL l ys ao cap) 107 w0 (c8bp4 ps0) := ob_conv 84 85 22 9 5 Try.underlying22 Try.underlying5 Try.underlying9 (encRow l) rfl rfl (by decide) trivial (fun _ _ _ h => h) (fun _ => rfl)
set_option maxRecDepth 100000 in
theorem c8b_o5 (ps0 : String) (l : List V) (ys : List Nat) (ao : Option Addr) (cap : Nat) (w0 : World) (h0 : DRow w0.heap.size w0 (.slice ao l.length cap) l) (hl : l.length ≤ 1000000) : Ob Try.prog (c8bops ps0).toArray (c8bL l ys ao cap) 107 w0 (c8bp5 ps0) := ob_eqS rfl rfl trivial ⟨by decide, fun _ _ h => h⟩ ⟨by decide, fun _ _ h => h⟩ rfl (fun _ => rfl)
set_option maxRecDepth 100000 in
theorem c8b_o6 (ps0 : String) (l : List V) (ys : List Nat) (ao : Option Addr) (cap : Nat) (w0 : World) (h0 : DRow w0.heap.size w0 (.slice ao l.length cap) l) (hl : l.length ≤ 1000000) : Ob Try.prog (c8bops ps0).toArray (c8bL l ys ao cap) 107 w0 (c8bp6 ps0) := ob_move 86 87 rfl rfl (by decide) trivial (fun _ _ h => h)
set_option maxRecDepth 100000 in
theorem c8b_o7 (ps0 : String) (l : List V) (ys : List Nat) (ao : Option Addr) (cap : Nat) (w0 : World) (h0 : DRow w0.heap.size w0 (.slice ao l.length cap) l) (hl : l.length ≤ 1000000) : Ob Try.prog (c8bops ps0).toArray (c8bL l ys ao cap) 107 w0 (c8bp7 ps0) := ob_move 8 88 rfl rfl (by decide) ⟨87, rfl, by decide, fun _ _ h => h⟩ (fun _ _ h => h)
set_option maxRecDepth 100000 in
theorem c8b_o8 (ps0 : String) (l : List V) (ys : List Nat) (ao : Option Addr) (cap : Nat) (w0 : World) (h0 : DRow w0.heap.size w0 (.slice ao l.length cap) l) (hl : l.length ≤ 1000000) : Ob Try.prog (c8bops ps0).toArray (c8bL l ys ao cap) 107 w0 (c8bp8 ps0) := ob_eqI rfl rfl ⟨87, rfl, by decide, fun _ _ h => h⟩ ⟨by decide, fun _ _ h => h⟩ rfl rfl (fun _ => rfl)
set_option maxRecDepth 100000 in
theorem c8b_o9 (ps0 : String) (l : List V) (ys : List Nat) (ao : Option Addr) (cap : Nat) (w0 : World) (h0 : DRow w0.heap.size w0 (.slice ao l.length cap) l) (hl : l.length ≤ 1000000) : Ob Try.prog (c8bops ps0).toArray (c8bL l ys ao cap) 107 w0 (c8bp9 ps0) := ob_pick rfl rfl trivial ⟨by decide, fun _ _ h => h⟩ ⟨by decide, fun _ _ h => h⟩ (fun _ => rfl)
set_option maxRecDepth 100000 in
theorem c8b_o10 (ps0 : String) (l : List V) (ys : List Nat) (ao : Option Addr) (cap : Nat) (w0 : World) (h0 : DRow w0.heap.size w0 (.slice ao l.length cap) l) (hl : l.length ≤ 1000000) : Ob Try.prog (c8bops ps0).toArray (c8bL l ys ao cap) 107 w0 (c8bp10 ps0) := ob_move 90 91 rfl rfl (by decide) trivial (fun _ _ h => h)
set_option maxRecDepth 100000 in
theorem c8b_o11 (ps0 : String) (l : List V) (ys : List Nat) (ao : Option Addr) (cap : Nat) (w0 : World) (h0 : DRow w0.heap.size w0 (.slice ao l.length cap) l) (hl : l.length ≤ 1000000) : Ob Try.prog (c8bops ps0).toArray (c8bL l ys ao cap) 107 w0 (c8bp11 ps0) := ob_move 6 92 rfl rfl (by decide) ⟨91, rfl, by decide, fun _ _ h => h⟩ (fun _ _ h => h)
set_option maxRecDepth 100000 in
theorem c8b_o12 (ps0 : String) (l : List V) (ys : List Nat) (ao : Option Addr) (cap : Nat) (w0 : World) (h0 : DRow w0.heap.size w0 (.slice ao l.length cap) l) (hl : l.length ≤ 1000000) : Ob Try.prog (c8bops ps0).toArray (c8bL l ys ao cap) 107 w0 (c8bp12 ps0) := ob_move 0 93 rfl rfl (by decide) ⟨91, rfl, by decide, fun _ _ h => h⟩ (fun _ _ h => h)
set_option maxRecDepth 100000 in
theorem c8b_o13 (ps0 : String) (l : List V) (ys : List Nat) (ao : Option Addr) (cap : Nat) (w0 : World) (h0 : DRow w0.heap.size w0 (.slice ao l.length cap) l) (hl : l.length ≤ 1000000) : Ob Try.prog (c8bops ps0).toArray (c8bL l ys ao cap) 107 w0 (c8bp13 ps0) := ob_call2 [(.slice ao l.length cap)] rfl rfl ⟨91, rfl, by decide, fun _ _ h => h⟩ ⟨⟨by decide, fun _ _ h => h⟩, trivial⟩ (fun w hw => (cleanRow_walk _ l w ((h0.grown hw).mono hw.size) hl).mono fun e w1 ⟨v, he, ho, hf⟩ => ⟨v, he, hf.1, Sl.of_own ho⟩) (enter_of Try.func46 (by kernel_rfl) rfl)
set_option maxRecDepth 100000 in
theorem c8b_o14 (ps0 : String) (l : List V) (ys : List Nat) (ao : Option Addr) (cap : Nat) (w0 : World) (h0 : DRow w0.heap.size w0 (.slice ao l.length cap) l) (hl : l.length ≤ 1000000) : Ob Try.prog (c8bops ps0).toArray (c8bL l ys ao cap) 107 w0 (c8bp14 ps0) := ob_callF rfl rfl ⟨91, rfl, by decide, fun _ _ h => h⟩ (enter_of Try.func45 (by kernel_rfl) rfl) (fun a w hw hl => (sameRow_walk _ _ _ _ w (hl 92 (by simp) (by decide)) (hl 94 (by simp) (by decide))).mono fun e w1 ⟨he, hg⟩ => ⟨.bool true, by rw [he]; simp, hg, rfl⟩)
set_option maxRecDepth 100000 in
theorem c8b_o15 (ps0 : String) (l : List V) (ys : List Nat) (ao : Option Addr) (cap : Nat) (w0 : World) (h0 : DRow w0.heap.size w0 (.slice ao l.length cap) l) (hl : l.length ≤ 1000000) : Ob Try.prog (c8bops ps0).toArray (c8bL l ys ao cap) 107 w0 (c8bp15 ps0) := ob_pick rfl rfl trivial ⟨by decide, fun _ _ h => h⟩ ⟨by decide, fun _ _ h => h⟩ (fun _ => rfl)
set_option maxRecDepth 100000 in
theorem c8b_o16 (ps0 : String) (l : List V) (ys : List Nat) (ao : Option Addr) (cap : Nat) (w0 : World) (h0 : DRow w0.heap.size w0 (.slice ao l.length cap) l) (hl : l.length ≤ 1000000) : Ob Try.prog (c8bops ps0).toArray (c8bL l ys ao cap) 107 w0 (c8bp16 ps0) := ob_move 96 97 rfl rfl (by decide) trivial (fun _ _ h => h)
set_option maxRecDepth 100000 in
theorem c8b_o17 (ps0 : String) (l : List V) (ys : List Nat) (ao : Option Addr) (cap : Nat) (w0 : World) (h0 : DRow w0.heap.size w0 (.slice ao l.length cap) l) (hl : l.length ≤ 1000000) : Ob Try.prog (c8bops ps0).toArray (c8bL l ys ao cap) 107 w0 (c8bp17 ps0) := ob_move 7 98 rfl rfl (by decide) ⟨97, rfl, by decide, fun _ _ h => h⟩ (fun _ _ h => h)
set_option maxRecDepth 100000 in
theorem c8b_o18 (ps0 : String) (l : List V) (ys : List Nat) (ao : Option Addr) (cap : Nat) (w0 : World) (h0 : DRow w0.heap.size w0 (.slice ao l.length cap) l) (hl : l.length ≤ 1000000) : Ob Try.prog (c8bops ps0).toArray (c8bL l ys ao cap) 107 w0 (c8bp18 ps0) := ob_conv 98 99 22 9 5 Try.underlying22 Try.underlying5 Try.underlying9 ys rfl rfl (by decide) ⟨97, rfl, by decide, fun _ _ h => h⟩ (fun _ _ _ h => h) (fun _ => rfl)
set_option maxRecDepth 100000 in
theorem c8b_o19 (ps0 : String) (l : List V) (ys : List Nat) (ao : Option Addr) (cap : Nat) (w0 : World) (h0 : DRow w0.heap.size w0 (.slice ao l.length cap) l) (hl : l.length ≤ 1000000) : Ob Try.prog (c8bops ps0).toArray (c8bL l ys ao cap) 107 w0 (c8bp19 ps0) := ob_move 1 100 rfl rfl (by decide) ⟨97, rfl, by decide, fun _ _ h => h⟩ (fun _ _ h => h)
set_option maxRecDepth 100000 in
theorem c8b_o20 (ps0 : String) (l : List V) (ys : List Nat) (ao : Option Addr) (cap : Nat) (w0 : World) (h0 : DRow w0.heap.size w0 (.slice ao l.length cap) l) (hl : l.length ≤ 1000000) : Ob Try.prog (c8bops ps0).toArray (c8bL l ys ao cap) 107 w0 (c8bp20 ps0) := ob_conv 100 101 22 9 5 Try.underlying22 Try.underlying5 Try.underlying9 ys rfl rfl (by decide) ⟨97, rfl, by decide, fun _ _ h => h⟩ (fun _ _ _ h => h) (fun _ => rfl)
set_option maxRecDepth 100000 in
theorem c8b_o21 (ps0 : String) (l : List V) (ys : List Nat) (ao : Option Addr) (cap : Nat) (w0 : World) (h0 : DRow w0.heap.size w0 (.slice ao l.length cap) l) (hl : l.length ≤ 1000000) : Ob Try.prog (c8bops ps0).toArray (c8bL l ys ao cap) 107 w0 (c8bp21 ps0) := ob_eqS rfl rfl ⟨97, rfl, by decide, fun _ _ h => h⟩ ⟨by decide, fun _ _ h => h⟩ ⟨by decide, fun _ _ h => h⟩ rfl (fun _ => rfl)
set_option maxRecDepth 100000 in
theorem c8b_o22 (ps0 : String) (l : List V) (ys : List Nat) (ao : Option Addr) (cap : Nat) (w0 : World) (h0 : DRow w0.heap.size w0 (.slice ao l.length cap) l) (hl : l.length ≤ 1000000) : Ob Try.prog (c8bops ps0).toArray (c8bL l ys ao cap) 107 w0 (c8bp22 ps0) := ob_pick rfl rfl trivial ⟨by decide, fun _ _ h => h⟩ ⟨by decide, fun _ _ h => h⟩ (fun _ => rfl)
set_option maxRecDepth 100000 in
theorem c8b_o23 (ps0 : String) (l : List V) (ys : List Nat) (ao : Option Addr) (cap : Nat) (w0 : World) (h0 : DRow w0.heap.size w0 (.slice ao l.length cap) l) (hl : l.length ≤ 1000000) : Ob Try.prog (c8bops ps0).toArray (c8bL l ys ao cap) 107 w0 (c8bp23 ps0) := ob_move 103 104 rfl rfl (by decide) trivial (fun _ _ h => h)
set_option maxRecDepth 100000 in
theorem c8b_o24 (ps0 : String) (l : List V) (ys : List Nat) (ao : Option Addr) (cap : Nat) (w0 : World) (h0 : DRow w0.heap.size w0 (.slice ao l.length cap) l) (hl : l.length ≤ 1000000) : Ob Try.prog (c8bops ps0).toArray (c8bL l ys ao cap) 107 w0 (c8bp24 ps0) := ob_call2 [] rfl rfl ⟨104, rfl, by decide, fun _ _ h => h⟩ trivial (fun w hw => (awake_walk w).mono fun e w1 ⟨he, hg⟩ => ⟨_, he, hg, rfl⟩) (enter_of Try.func18 (by kernel_rfl) rfl)
set_option maxRecDepth 100000 in
theorem c8b_o25 (ps0 : String) (l : List V) (ys : List Nat) (ao : Option Addr) (cap : Nat) (w0 : World) (h0 : DRow w0.heap.size w0 (.slice ao l.length cap) l) (hl : l.length ≤ 1000000) : Ob Try.prog (c8bops ps0).toArray (c8bL l ys ao cap) 107 w0 (c8bp25 ps0) := ob_pick rfl rfl trivial ⟨by decide, fun _ _ h => h⟩ ⟨by decide, fun _ _ h => h⟩ (fun _ => rfl)
set_option maxRecDepth 100000 in
theorem c8b_o26 (ps0 : String) (l : List V) (ys : List Nat) (ao : Option Addr) (cap : Nat) (w0 : World) (h0 : DRow w0.heap.size w0 (.slice ao l.length cap) l) (hl : l.length ≤ 1000000) : Ob Try.prog (c8bops ps0).toArray (c8bL l ys ao cap) 107 w0 (c8bp26 ps0) := ob_assign 106 4 rfl rfl (by decide) trivial (fun _ _ h => h)
set_option maxRecDepth 100000 in
theorem c8b_ob (ps0 : String) (l : List V) (ys : List Nat) (ao : Option Addr) (cap : Nat) (w0 : World) (h0 : DRow w0.heap.size w0 (.slice ao l.length cap) l) (hl : l.length ≤ 1000000) : ObAll Try.prog (c8bops ps0).toArray (c8bL l ys ao cap) 107 w0 (c8bops ps0) := ⟨c8b_o0 ps0 l ys ao cap w0 h0 hl, c8b_o1 ps0 l ys ao cap w0 h0 hl, c8b_o2 ps0 l ys ao cap w0 h0 hl, c8b_o3 ps0 l ys ao cap w0 h0 hl, c8b_o4 ps0 l ys ao cap w0 h0 hl, c8b_o5 ps0 l ys ao cap w0 h0 hl, c8b_o6 ps0 l ys ao cap w0 h0 hl, c8b_o7 ps0 l ys ao cap w0 h0 hl, c8b_o8 ps0 l ys ao cap w0 h0 hl, c8b_o9 ps0 l ys ao cap w0 h0 hl, c8b_o10 ps0 l ys ao cap w0 h0 hl, c8b_o11 ps0 l ys ao cap w0 h0 hl, c8b_o12 ps0 l ys ao cap w0 h0 hl, c8b_o13 ps0 l ys ao cap w0 h0 hl, c8b_o14 ps0 l ys ao cap w0 h0 hl, c8b_o15 ps0 l ys ao cap w0 h0 hl, c8b_o16 ps0 l ys ao cap w0 h0 hl, c8b_o17 ps0 l ys ao cap w0 h0 hl, c8b_o18 ps0 l ys ao cap w0 h0 hl, c8b_o19 ps0 l ys ao cap w0 h0 hl, c8b_o20 ps0 l ys ao cap w0 h0 hl, c8b_o21 ps0 l ys ao cap w0 h0 hl, c8b_o22 ps0 l ys ao cap w0 h0 hl, c8b_o23 ps0 l ys ao cap w0 h0 hl, c8b_o24 ps0 l ys ao cap w0 h0 hl, c8b_o25 ps0 l ys ao cap w0 h0 hl, c8b_o26 ps0 l ys ao cap w0 h0 hl, trivial⟩

theorem encC_byte (v : V) : ∀ b ∈ encC v, b < 256 := app_byte (fun b hb => enc_byte _ b hb) (fun b hb => by
  split at hb
  · exact enc_byte _ b hb
  · split at hb
    · unfold encT at hb
      rcases List.mem_append.1 hb with h | h
      · exact enc_byte _ b h
      · exact by_lt _ b h
    · simp at hb)
theorem encV_byte (v : V) : ∀ b ∈ encV v, b < 256 := encC_byte _
theorem encRow_byte (l : List V) : ∀ b ∈ encRow l, b < 256 := app_byte (fun b hb => enc_byte _ b hb) (flat_byte fun v _ => encV_byte v)
theorem enterShort : True := trivial
set_option maxRecDepth 100000 in
set_option maxHeartbeats 1000000 in
theorem codecRows_walk (s rest : Value) (l : List V) (ys : List Nat) (w : World) (hs : Sl w 3 s l.length (l.flatMap vcells)) (hsl : Lo s w.heap.size) (hrest : Sl w 1 rest ys.length (bv ys)) (hrl : Lo rest w.heap.size) (hy : ∀ y ∈ ys, y < 256) :
    Calls Try.prog 8 #[s, rest] w fun e w' => e = .returned (.bool true) ∧ w.grownBy w' none := by
  obtain ⟨ao, cap, rfl, hnc, hcm⟩ := hs.shape
  obtain ⟨ao2, cap2, rfl, hnc2, hcm2⟩ := hrest.shape
  have HS := hid (And.intro hs hsl)
  have HR := hid (And.intro hrest hrl)
  have HY := hid hy
  clear hs hsl hrest hrl hy
  by_cases h1 : ¬ l.length ≤ 16
  · have d1 : decide (l.length ≤ 16) = false := decide_eq_false h1
    go_enter Try.func8, Try.ntmps8
    go_wp2_with fail
    refine (short_walk _ _ _ _ HS.out.1).mono ?_
    rintro e w' ⟨rfl, rfl⟩
    go_wp2_with (go_at_call 18; refine (awake_walk _).mono ?_; rintro e w' ⟨rfl, hg⟩)
    go_ret
    exact ⟨rfl, hg⟩
  have h1 : l.length ≤ 16 := by omega
  have d1 : decide (l.length ≤ 16) = true := decide_eq_true h1
  by_cases h2 : 100 < ys.length
  · have d2 : decide (100 < ys.length) = true := decide_eq_true h2
    go_enter Try.func8, Try.ntmps8
    go_wp2_with fail
    refine (short_walk _ _ _ _ HS.out.1).mono ?_
    rintro e w' ⟨rfl, rfl⟩
    go_wp2_with (go_at_call 18; refine (awake_walk _).mono ?_; rintro e w' ⟨rfl, hg⟩)
    go_ret
    exact ⟨rfl, hg⟩
  have d2 : decide (100 < ys.length) = false := decide_eq_false h2
  have hl : l.length ≤ 1000000 := by omega
  have hel := encRow_len l (by omega)
  go_enter Try.func8, Try.ntmps8
  go_wp2_with fail
  refine (short_walk _ _ _ _ HS.out.1).mono ?_
  rintro e w' ⟨rfl, rfl⟩
  go_wp2_with fail
  refine (appendRow_walk nilS _ l [] w (Sl.nil _ _) (fun k hk => by simp [Value.ownBlock] at hk) (DRow.of HS.out.1 HS.out.2) (by simp; omega)).mono ?_
  rintro e w1 ⟨v1, rfl, hown1, hf1⟩
  rw [List.nil_append] at hown1
  have HO1 := hid hown1
  have G1 := hid (Step.none hf1)
  clear hown1 hf1
  go_wp2_with fail
  refine (join_walk _ _ (encRow l) ys _ (Sl.of_own HO1.out) (HR.out.1.kn G1.out) (by omega)).mono ?_
  rintro e w2 ⟨v2, rfl, hown2, hf2⟩
  have G12 := hid (Step.none hf2)
  have hlo2 : Lo v2 w2.heap.size := fun k hk => Own.lt hown2 k hk
  have HO2 := hid (And.intro hown2 hlo2)
  clear hown2 hf2 hlo2
  go_wp2_with fail
  refine (rdxRow_walk v2 (encRow l ++ ys) w2 (Sl.of_own HO2.out.1) (by rw [List.length_append]; omega) (app_byte (encRow_byte l) HY.out) HO2.out.2).mono ?_
  intro e w3 h3
  obtain ⟨g3, v3, rv3, rfl, hrep3, hs3, _⟩ := h3.ok ((cd_row l h1).rt ys)
  obtain ⟨ao3, cap3, rfl, _, _⟩ := hs3.shape
  have R3 := hid hrep3.sl
  have S3 := hid hs3
  have G3 := hid (grown_trans G1.out (grown_trans G12.out g3))
  have O13 := hid ((Sl.of_own HO1.out).kn (grown_trans G12.out g3))
  clear h3 hrep3 hs3 g3
  go_wp2
  go_loopw [9] (fun i wr => ∃ k : Nat, k ≤ l.length ∧ i = .int .i64 k ∧ w3.grownBy wr none) (fun i _ => l.length - (intOf i).toNat)
  case atStart => exact ⟨0, Nat.zero_le _, rfl, World.grownBy.refl _ _⟩
  case round =>
    obtain ⟨k, hk, rfl, hg⟩ := hrel
    have hgw := grown_trans G3.out hg
    have HGW := hid hgw
    have HG := hid hg
    clear hg hgw
    by_cases hlt : k < l.length
    · have hsk := HS.out.1.kn HGW.out
      obtain ⟨blk, off, rfl, hc⟩ := hsk.elem (fun x _ => rfl) (by decide) k hlt
      have h0 : wr.cell? ⟨blk, off + k * 3, none⟩ = some (.int .i64 l[k].kind) := hc 0 _ rfl
      have h1 : wr.cell? ⟨blk, off + k * 3 + 1, none⟩ = some (.int .i64 l[k].int) := hc 1 _ rfl
      have h2 : wr.cell? ⟨blk, off + k * 3 + 2, none⟩ = some (.string l[k].text) := hc 2 _ rfl
      have HD : Hid (wr.rangeAt blk (off + k * 3) [.int .i64 l[k].kind, .int .i64 l[k].int, .string l[k].text]) := hid fun j v hj => by
        have := hc j v hj
        rwa [← Nat.add_assoc] at this
      generalize l[k] = x at *
      clear hsk hc
      have HA := hid (fun xs => appendValue_walk nilS x xs wr)
      have hev := encV_len x
      unfold vval at HA
      go_wp2_with fail
      refine (HA.out [] (Sl.nil _ _) (fun k hk => by simp [Value.ownBlock] at hk) (by simp)).mono ?_
      rintro e w4 ⟨v4, rfl, hown4, hf4⟩
      rw [List.nil_append] at hown4
      have HO4 := hid hown4
      have G4 := hid (Step.none hf4)
      clear hown4 hf4 HA h0 h1 h2
      go_wp2_with fail
      refine (join_walk _ _ (encV x) ys _ (Sl.of_own HO4.out) (HR.out.1.kn (grown_trans HGW.out G4.out)) (by omega)).mono ?_
      rintro e w5 ⟨v5, rfl, hown5, hf5⟩
      have G5 := hid (Step.none hf5)
      have hlo5 : Lo v5 w5.heap.size := fun k hk => Own.lt hown5 k hk
      have HO5 := hid (And.intro hown5 hlo5)
      clear hown5 hf5 hlo5
      go_wp2_with fail
      refine (rdxValue_walk v5 (encV x ++ ys) w5 (Sl.of_own HO5.out.1) (by rw [List.length_append]; omega) (app_byte (encV_byte x) HY.out) HO5.out.2).mono ?_
      intro e w6 h6
      obtain ⟨g6, v6, rv6, rfl, hrep6, hs6, _⟩ := h6.ok ((cd_V x).rt ys)
      obtain ⟨ao6, cap6, rfl, _, _⟩ := hs6.shape
      have hrep6' : v6 = vval x.clean := hrep6
      subst hrep6'
      have S6 := hid hs6
      have G46 := hid (grown_trans G5.out g6)
      have O46 := hid ((Sl.of_own HO4.out).kn G46.out)
      clear h6 hrep6 hs6 g6
      go_wp2_with (first | (refine wpList_storeTYg rfl 67 (.tmp 11) (.tmp 49) rfl rfl rfl (tyV x.clean) (heap_at rfl) rfl ?_; intro w7 hg7 hb7; have g7 := grown_newR (World.grownBy_alloc w6 _ none) hg7 (Nat.le_refl _); have G7 := hid g7; have B7 := hid hb7; clear hg7 hb7 g7) | fail)
      have hD := rangeAt_kept HD.out (grown_trans G4.out (grown_trans G46.out G7.out))
      have hA := rangeAt_row B7.out
      have G37 := hid (grown_trans G4.out (grown_trans G46.out G7.out))
      refine region_listF mixed (c8aL x ys blk off l.length cap k w6.heap.size) _ (c8a_reg _) (c8a_m _) ?_ ?_ (c8a_ob _ x ys blk off l.length cap k w6.heap.size _ hlt hnc hcm hD hA) ?_
      · rfl
      · exact ⟨.inr rfl, .inr (HR.out.1.kn (grown_trans HGW.out G37.out)), .inr trivial, .inr trivial, .inr trivial, .inr trivial, .inr trivial, .inr trivial, .inr trivial, .inr rfl, .inr (O46.out.kn G7.out), .inr rfl, .inr (S6.out.kn G7.out), .inr rfl, .inr trivial, .inr trivial, .inr trivial, .inr trivial, .inr trivial, .inr trivial, .inr trivial, .inr trivial, .inr trivial, .inr trivial, .inr trivial, .inr trivial, .inr trivial, .inr trivial, .inr trivial, .inr trivial, .inr trivial, .inr trivial, .inr trivial, .inr trivial, .inr trivial, .inr trivial, .inr trivial, .inr trivial, .inr trivial, .inr trivial, .inr trivial, .inr trivial, .inr trivial, .inr trivial, .inr trivial, .inr trivial, .inr trivial, .inr trivial, .inr trivial, .inr trivial, .inr trivial, .inr trivial, .inl rfl, .inl rfl, .inl rfl, .inl rfl, .inl rfl, .inl rfl, .inl rfl, .inl rfl, .inl rfl, .inl rfl, .inl rfl, .inl rfl, .inl rfl, .inl rfl, .inl rfl, .inl rfl, .inl rfl, .inl rfl, .inl rfl, .inl rfl, .inl rfl, .inl rfl, .inl rfl, .inl rfl, .inl rfl, .inl rfl, .inl rfl, .inl rfl, .inl rfl, .inr trivial, .inr trivial, .inr trivial, .inr trivial, .inr trivial, .inr trivial, .inr trivial, .inr trivial, .inr trivial, .inr trivial, .inr trivial, .inr trivial, .inr trivial, .inr trivial, .inr trivial, .inr trivial, .inr trivial, .inr trivial, .inr trivial, .inr trivial, .inr trivial, .inr trivial, .inr trivial, .inr trivial, .inr trivial, .inr trivial, trivial⟩
      intro x8 w8 hg8 hk8
      simp only [frameOf, Bool.false_eq_true, if_false, if_true]
      have h80 : x8 80 = .bool false := hk8 80 (by show 80 < 107; decide)
      rw [h80]
      clear h80 hk8 hD hA
      have G38 := hid (grown_trans HG.out (grown_trans G37.out hg8))
      clear hg8
      go_wp2
      go_roundw
      case rel => exact ⟨k + 1, by omega, by go_num, G38.out⟩
      case measure => simp [intOf]; omega
    · obtain rfl : k = l.length := by omega
      go_wp2
      have h0 : DRow wr.heap.size wr (.slice ao l.length cap) l := DRow.of (HS.out.1.kn HGW.out) (HS.out.2.mono HGW.out.size)
      have h1 := HR.out.1.kn HGW.out
      have h5 := O13.out.kn HG.out
      have h6 := R3.out.kn HG.out
      have h7 := S3.out.kn HG.out
      refine region_list mixed (c8bL l ys ao cap) _ (c8b_reg _) (c8b_m _) rfl ⟨.inr rfl, .inr h1, .inr trivial, .inr trivial, .inl rfl, .inr h5, .inr h6, .inr h7, .inr rfl, .inr trivial, .inr trivial, .inr trivial, .inr trivial, .inr trivial, .inr trivial, .inr trivial, .inr trivial, .inr trivial, .inr trivial, .inr trivial, .inr trivial, .inr trivial, .inr trivial, .inr trivial, .inr trivial, .inr trivial, .inr trivial, .inr trivial, .inr trivial, .inr trivial, .inr trivial, .inr trivial, .inr trivial, .inr trivial, .inr trivial, .inr trivial, .inr trivial, .inr trivial, .inr trivial, .inr trivial, .inr trivial, .inr trivial, .inr trivial, .inr trivial, .inr trivial, .inr trivial, .inr trivial, .inr trivial, .inr trivial, .inr trivial, .inr trivial, .inr trivial, .inr trivial, .inr trivial, .inr trivial, .inr trivial, .inr trivial, .inr trivial, .inr trivial, .inr trivial, .inr trivial, .inr trivial, .inr trivial, .inr trivial, .inr trivial, .inr trivial, .inr trivial, .inr trivial, .inr trivial, .inr trivial, .inr trivial, .inr trivial, .inr trivial, .inr trivial, .inr trivial, .inr trivial, .inr trivial, .inr trivial, .inr trivial, .inr trivial, .inr trivial, .inl rfl, .inl rfl, .inl rfl, .inl rfl, .inl rfl, .inl rfl, .inl rfl, .inl rfl, .inl rfl, .inl rfl, .inl rfl, .inl rfl, .inl rfl, .inl rfl, .inl rfl, .inl rfl, .inl rfl, .inl rfl, .inl rfl, .inl rfl, .inl rfl, .inl rfl, .inl rfl, .inl rfl, .inl rfl, .inl rfl, trivial⟩ (c8b_ob _ l ys ao cap _ h0 hl) ?_
      intro a w9 hg9 hd9 hsz hk
      have h4 := hk 4 (by show 4 < 107; decide)
      go_wp2
      refine bodyPost_ret (results_tmp rfl _ _ _) hd9 ?_
      exact ⟨congrArg _ h4, grown_trans HGW.out hg9⟩
end Go.Proofs.Ytkeiffccllfkpaa
