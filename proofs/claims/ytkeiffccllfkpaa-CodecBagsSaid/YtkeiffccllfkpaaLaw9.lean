/- The law CodecBags: the walk. -/
import Derived.Test.YtkeiffccllfkpaaN11
import Derived.Test.YtkeiffccllfkpaaN13
import Derived.Test.YtkeiffccllfkpaaLaw6
namespace Go.Proofs.Ytkeiffccllfkpaa
open Go.RowKit
set_option linter.unusedSimpArgs false

def ens (ps : List (Value × En)) : List En := ps.map (·.2)
set_option linter.unusedVariables false
def c9bp0 (ps0 : String) : Oper := { dst := some 59, op := Go.Op.move (Go.Operand.tmp 7), type := 22, pos := ps0, after := #[], guard := none }
def c9bp1 (ps0 : String) : Oper := { dst := some 60, op := Go.Op.convert 22 9 (Go.Operand.tmp 59), type := 9, pos := ps0, after := #[{ on := 0, ground := Go.Ground.data }], guard := none }
def c9bp2 (ps0 : String) : Oper := { dst := some 61, op := Go.Op.move (Go.Operand.tmp 0), type := 76, pos := ps0, after := #[], guard := none }
def c9bp3 (ps0 : String) : Oper := { dst := some 62, op := Go.Op.call { callee := Go.Callee.value (Go.Operand.func 49), args := #[Go.Operand.tmp 61], argTypes := #[76] }, type := 22, pos := ps0, after := #[{ on := 2, ground := Go.Ground.data }], guard := none }
def c9bp4 (ps0 : String) : Oper := { dst := some 63, op := Go.Op.convert 22 9 (Go.Operand.tmp 62), type := 9, pos := ps0, after := #[{ on := 3, ground := Go.Ground.data }], guard := none }
def c9bp5 (ps0 : String) : Oper := { dst := some 64, op := Go.Op.binOp Go.BinOp.eql 9 (Go.Operand.tmp 60) (Go.Operand.tmp 63) 9, type := 4, pos := ps0, after := #[{ on := 1, ground := Go.Ground.data }, { on := 4, ground := Go.Ground.data }], guard := none }
def c9bp6 (ps0 : String) : Oper := { dst := some 65, op := Go.Op.move (Go.Operand.tmp 64), type := 4, pos := ps0, after := #[{ on := 5, ground := Go.Ground.data }, { on := 3, ground := Go.Ground.chain }], guard := none }
def c9bp7 (ps0 : String) : Oper := { dst := some 66, op := Go.Op.move (Go.Operand.tmp 10), type := 25, pos := ps0, after := #[{ on := 6, ground := Go.Ground.guard }], guard := some (6, true) }
def c9bp8 (ps0 : String) : Oper := { dst := some 67, op := Go.Op.binOp Go.BinOp.eql 25 (Go.Operand.tmp 66) (Go.Operand.const (Go.Value.int Go.IntKind.i64 0)) 25, type := 4, pos := ps0, after := #[{ on := 7, ground := Go.Ground.data }, { on := 6, ground := Go.Ground.guard }], guard := some (6, true) }
def c9bp9 (ps0 : String) : Oper := { dst := some 68, op := Go.Op.pick (Go.Operand.tmp 65) (Go.Operand.tmp 67) (Go.Operand.const (Go.Value.bool false)), type := 4, pos := ps0, after := #[{ on := 6, ground := Go.Ground.data }, { on := 8, ground := Go.Ground.data }], guard := none }
def c9bp10 (ps0 : String) : Oper := { dst := some 69, op := Go.Op.move (Go.Operand.tmp 68), type := 4, pos := ps0, after := #[{ on := 9, ground := Go.Ground.data }, { on := 6, ground := Go.Ground.chain }], guard := none }
def c9bp11 (ps0 : String) : Oper := { dst := some 70, op := Go.Op.move (Go.Operand.tmp 8), type := 76, pos := ps0, after := #[{ on := 10, ground := Go.Ground.guard }], guard := some (10, true) }
def c9bp12 (ps0 : String) : Oper := { dst := some 71, op := Go.Op.move (Go.Operand.tmp 5), type := 76, pos := ps0, after := #[{ on := 10, ground := Go.Ground.guard }], guard := some (10, true) }
def c9bp13 (ps0 : String) : Oper := { dst := some 72, op := Go.Op.call { callee := Go.Callee.value (Go.Operand.func 50), args := #[Go.Operand.tmp 70, Go.Operand.tmp 71], argTypes := #[76, 76] }, type := 4, pos := ps0, after := #[{ on := 11, ground := Go.Ground.data }, { on := 12, ground := Go.Ground.data }, { on := 10, ground := Go.Ground.chain }, { on := 10, ground := Go.Ground.guard }], guard := some (10, true) }
def c9bp14 (ps0 : String) : Oper := { dst := some 73, op := Go.Op.pick (Go.Operand.tmp 69) (Go.Operand.tmp 72) (Go.Operand.const (Go.Value.bool false)), type := 4, pos := ps0, after := #[{ on := 10, ground := Go.Ground.data }, { on := 13, ground := Go.Ground.data }], guard := none }
def c9bp15 (ps0 : String) : Oper := { dst := some 74, op := Go.Op.move (Go.Operand.tmp 73), type := 4, pos := ps0, after := #[{ on := 14, ground := Go.Ground.data }, { on := 13, ground := Go.Ground.chain }], guard := none }
def c9bp16 (ps0 : String) : Oper := { dst := some 75, op := Go.Op.move (Go.Operand.tmp 9), type := 22, pos := ps0, after := #[{ on := 15, ground := Go.Ground.guard }], guard := some (15, true) }
def c9bp17 (ps0 : String) : Oper := { dst := some 76, op := Go.Op.convert 22 9 (Go.Operand.tmp 75), type := 9, pos := ps0, after := #[{ on := 16, ground := Go.Ground.data }, { on := 15, ground := Go.Ground.guard }], guard := some (15, true) }
def c9bp18 (ps0 : String) : Oper := { dst := some 77, op := Go.Op.move (Go.Operand.tmp 1), type := 22, pos := ps0, after := #[{ on := 15, ground := Go.Ground.guard }], guard := some (15, true) }
def c9bp19 (ps0 : String) : Oper := { dst := some 78, op := Go.Op.convert 22 9 (Go.Operand.tmp 77), type := 9, pos := ps0, after := #[{ on := 18, ground := Go.Ground.data }, { on := 15, ground := Go.Ground.guard }], guard := some (15, true) }
def c9bp20 (ps0 : String) : Oper := { dst := some 79, op := Go.Op.binOp Go.BinOp.eql 9 (Go.Operand.tmp 76) (Go.Operand.tmp 78) 9, type := 4, pos := ps0, after := #[{ on := 17, ground := Go.Ground.data }, { on := 19, ground := Go.Ground.data }, { on := 15, ground := Go.Ground.guard }], guard := some (15, true) }
def c9bp21 (ps0 : String) : Oper := { dst := some 80, op := Go.Op.pick (Go.Operand.tmp 74) (Go.Operand.tmp 79) (Go.Operand.const (Go.Value.bool false)), type := 4, pos := ps0, after := #[{ on := 15, ground := Go.Ground.data }, { on := 20, ground := Go.Ground.data }], guard := none }
def c9bp22 (ps0 : String) : Oper := { dst := some 81, op := Go.Op.move (Go.Operand.tmp 80), type := 4, pos := ps0, after := #[{ on := 21, ground := Go.Ground.data }, { on := 15, ground := Go.Ground.chain }], guard := none }
def c9bp23 (ps0 : String) : Oper := { dst := some 82, op := Go.Op.call { callee := Go.Callee.value (Go.Operand.func 18), args := #[], argTypes := #[] }, type := 4, pos := ps0, after := #[{ on := 22, ground := Go.Ground.chain }, { on := 22, ground := Go.Ground.guard }], guard := some (22, true) }
def c9bp24 (ps0 : String) : Oper := { dst := some 83, op := Go.Op.pick (Go.Operand.tmp 81) (Go.Operand.tmp 82) (Go.Operand.const (Go.Value.bool false)), type := 4, pos := ps0, after := #[{ on := 22, ground := Go.Ground.data }, { on := 23, ground := Go.Ground.data }], guard := none }
def c9bp25 (ps0 : String) : Oper := { dst := some 4, op := Go.Op.assign (Go.Operand.tmp 83), type := 4, pos := ps0, after := #[{ on := 24, ground := Go.Ground.data }, { on := 23, ground := Go.Ground.chain }, { on := 0, ground := Go.Ground.phase }, { on := 1, ground := Go.Ground.phase }, { on := 2, ground := Go.Ground.phase }, { on := 3, ground := Go.Ground.phase }, { on := 4, ground := Go.Ground.phase }, { on := 5, ground := Go.Ground.phase }, { on := 6, ground := Go.Ground.phase }, { on := 7, ground := Go.Ground.phase }, { on := 8, ground := Go.Ground.phase }, { on := 9, ground := Go.Ground.phase }, { on := 10, ground := Go.Ground.phase }, { on := 11, ground := Go.Ground.phase }, { on := 12, ground := Go.Ground.phase }, { on := 13, ground := Go.Ground.phase }, { on := 14, ground := Go.Ground.phase }, { on := 15, ground := Go.Ground.phase }, { on := 16, ground := Go.Ground.phase }, { on := 17, ground := Go.Ground.phase }, { on := 18, ground := Go.Ground.phase }, { on := 19, ground := Go.Ground.phase }, { on := 20, ground := Go.Ground.phase }, { on := 21, ground := Go.Ground.phase }, { on := 22, ground := Go.Ground.phase }, { on := 23, ground := Go.Ground.phase }, { on := 24, ground := Go.Ground.phase }], guard := none }
def c9bops (ps0 : String) : List Oper := [c9bp0 ps0, c9bp1 ps0, c9bp2 ps0, c9bp3 ps0, c9bp4 ps0, c9bp5 ps0, c9bp6 ps0, c9bp7 ps0, c9bp8 ps0, c9bp9 ps0, c9bp10 ps0, c9bp11 ps0, c9bp12 ps0, c9bp13 ps0, c9bp14 ps0, c9bp15 ps0, c9bp16 ps0, c9bp17 ps0, c9bp18 ps0, c9bp19 ps0, c9bp20 ps0, c9bp21 ps0, c9bp22 ps0, c9bp23 ps0, c9bp24 ps0, c9bp25 ps0]
def c9bF (ps p8 p5 : List (Value × En)) (ys : List Nat) (ao : Option Addr) (cap : Nat) (v8 v5 : Value) : List Value := [(.slice ao ps.length cap), undef, undef, undef, (.bool true), v5, undef, undef, v8, undef, (.int .i64 0), undef, undef, undef, undef, undef, undef, undef, undef, undef, undef, undef, undef, undef, undef, undef, undef, undef, undef, undef, undef, undef, undef, undef, undef, undef, undef, undef, undef, undef, undef, undef, undef, undef, undef, undef, undef, undef, undef, undef, undef, undef, undef, undef, undef, undef, undef, undef, undef, undef, (.string (bs (encBag (ens ps)))), (.slice ao ps.length cap), undef, (.string (bs (encBag (ens ps)))), (.bool true), (.bool true), (.int .i64 0), (.bool true), (.bool true), (.bool true), v8, v5, (.bool true), (.bool true), (.bool true), undef, (.string (bs ys)), undef, (.string (bs ys)), (.bool true), (.bool true), (.bool true), (.bool true), (.bool true)]
def c9bL (ps p8 p5 : List (Value × En)) (ys : List Nat) (ao : Option Addr) (cap : Nat) (v8 v5 : Value) : List Sp := [Sp.is (.slice ao ps.length cap), Sp.sl ys, Sp.any, Sp.any, Sp.is (.bool true), Sp.is v5, Sp.any, Sp.sl (encBag (ens ps)), Sp.is v8, Sp.sl ys, Sp.is (.int .i64 0), Sp.any, Sp.any, Sp.any, Sp.any, Sp.any, Sp.any, Sp.any, Sp.any, Sp.any, Sp.any, Sp.any, Sp.any, Sp.any, Sp.any, Sp.any, Sp.any, Sp.any, Sp.any, Sp.any, Sp.any, Sp.any, Sp.any, Sp.any, Sp.any, Sp.any, Sp.any, Sp.any, Sp.any, Sp.any, Sp.any, Sp.any, Sp.any, Sp.any, Sp.any, Sp.any, Sp.any, Sp.any, Sp.any, Sp.any, Sp.any, Sp.any, Sp.any, Sp.any, Sp.any, Sp.any, Sp.any, Sp.any, Sp.any, Sp.sl (encBag (ens ps)), Sp.is (.string (bs (encBag (ens ps)))), Sp.is (.slice ao ps.length cap), Sp.sl (encBag (ens ps)), Sp.is (.string (bs (encBag (ens ps)))), Sp.is (.bool true), Sp.is (.bool true), Sp.is (.int .i64 0), Sp.is (.bool true), Sp.is (.bool true), Sp.is (.bool true), Sp.is v8, Sp.is v5, Sp.is (.bool true), Sp.is (.bool true), Sp.is (.bool true), Sp.sl ys, Sp.is (.string (bs ys)), Sp.sl ys, Sp.is (.string (bs ys)), Sp.is (.bool true), Sp.is (.bool true), Sp.is (.bool true), Sp.is (.bool true), Sp.is (.bool true)]
theorem c9b_reg (ps0 : String) : regB (c9bops ps0).toArray 84 = true := by kernel_rfl
theorem c9b_m (ps0 : String) : dstsB (c9bops ps0) 84 = [false, false, false, false, true, false, false, false, false, false, false, false, false, false, false, false, false, false, false, false, false, false, false, false, false, false, false, false, false, false, false, false, false, false, false, false, false, false, false, false, false, false, false, false, false, false, false, false, false, false, false, false, false, false, false, false, false, false, false, true, true, true, true, true, true, true, true, true, true, true, true, true, true, true, true, true, true, true, true, true, true, true, true, true] := by kernel_rfl
set_option maxRecDepth 100000 in
theorem c9b_o0 (ps0 : String) (ps p8 p5 : List (Value × En)) (ys : List Nat) (ao : Option Addr) (cap : Nat) (v8 v5 : Value) (w0 : World) (h0 : DBag w0.heap.size w0 (.slice ao ps.length cap) ps) (hps : ∀ p ∈ ps, p.2.row.length ≤ 16 ∧ I64 p.2.count) (hl : ps.length ≤ 100000) (h8 : RBag w0 v8 p8) (h5 : RBag w0 v5 p5) (hpq : p8.map (·.2) = p5.map (·.2)) : Ob Try.prog (c9bops ps0).toArray (c9bL ps p8 p5 ys ao cap v8 v5) 84 w0 (c9bp0 ps0) := ob_move 7 59 rfl rfl (by decide) trivial (fun _ _ h => h)
set_option maxRecDepth 100000 in
theorem c9b_o1 (ps0 : String) (ps p8 p5 : List (Value × En)) (ys : List Nat) (ao : Option Addr) (cap : Nat) (v8 v5 : Value) (w0 : World) (h0 : DBag w0.heap.size w0 (.slice ao ps.length cap) ps) (hps : ∀ p ∈ ps, p.2.row.length ≤ 16 ∧ I64 p.2.count) (hl : ps.length ≤ 100000) (h8 : RBag w0 v8 p8) (h5 : RBag w0 v5 p5) (hpq : p8.map (·.2) = p5.map (·.2)) : Ob Try.prog (c9bops ps0).toArray (c9bL ps p8 p5 ys ao cap v8 v5) 84 w0 (c9bp1 ps0) := ob_conv 59 60 22 9 5 Try.underlying22 Try.underlying5 Try.underlying9 (encBag (ens ps)) rfl rfl (by decide) trivial (fun _ _ _ h => h) (fun _ => rfl)
set_option maxRecDepth 100000 in
theorem c9b_o2 (ps0 : String) (ps p8 p5 : List (Value × En)) (ys : List Nat) (ao : Option Addr) (cap : Nat) (v8 v5 : Value) (w0 : World) (h0 : DBag w0.heap.size w0 (.slice ao ps.length cap) ps) (hps : ∀ p ∈ ps, p.2.row.length ≤ 16 ∧ I64 p.2.count) (hl : ps.length ≤ 100000) (h8 : RBag w0 v8 p8) (h5 : RBag w0 v5 p5) (hpq : p8.map (·.2) = p5.map (·.2)) : Ob Try.prog (c9bops ps0).toArray (c9bL ps p8 p5 ys ao cap v8 v5) 84 w0 (c9bp2 ps0) := ob_move 0 61 rfl rfl (by decide) trivial (fun _ _ h => h)
set_option maxRecDepth 100000 in
theorem c9b_o3 (ps0 : String) (ps p8 p5 : List (Value × En)) (ys : List Nat) (ao : Option Addr) (cap : Nat) (v8 v5 : Value) (w0 : World) (h0 : DBag w0.heap.size w0 (.slice ao ps.length cap) ps) (hps : ∀ p ∈ ps, p.2.row.length ≤ 16 ∧ I64 p.2.count) (hl : ps.length ≤ 100000) (h8 : RBag w0 v8 p8) (h5 : RBag w0 v5 p5) (hpq : p8.map (·.2) = p5.map (·.2)) : Ob Try.prog (c9bops ps0).toArray (c9bL ps p8 p5 ys ao cap v8 v5) 84 w0 (c9bp3 ps0) := ob_call2 [(.slice ao ps.length cap)] rfl rfl trivial ⟨⟨by decide, fun _ _ h => h⟩, trivial⟩ (fun w hw => (refBag_walk _ ps w ⟨h0.1.kn hw, h0.2.1.mono hw.size, fun p hp => ((h0.2.2 p hp).grown hw).mono hw.size⟩ hps hl).mono fun e w1 ⟨v, he, ho, hf⟩ => ⟨v, he, hf.1, Sl.of_own ho⟩) (enter_of Try.func49 (by kernel_rfl) rfl)
set_option maxRecDepth 100000 in
theorem c9b_o4 (ps0 : String) (ps p8 p5 : List (Value × En)) (ys : List Nat) (ao : Option Addr) (cap : Nat) (v8 v5 : Value) (w0 : World) (h0 : DBag w0.heap.size w0 (.slice ao ps.length cap) ps) (hps : ∀ p ∈ ps, p.2.row.length ≤ 16 ∧ I64 p.2.count) (hl : ps.length ≤ 100000) (h8 : RBag w0 v8 p8) (h5 : RBag w0 v5 p5) (hpq : p8.map (·.2) = p5.map (·.2)) : Ob Try.prog (c9bops ps0).toArray (c9bL ps p8 p5 ys ao cap v8 v5) 84 w0 (c9bp4 ps0) := ob_conv 62 63 22 9 5 Try.underlying22 Try.underlying5 Try.underlying9 (encBag (ens ps)) rfl rfl (by decide) trivial (fun _ _ _ h => h) (fun _ => rfl)
set_option maxRecDepth 100000 in
theorem c9b_o5 (ps0 : String) (ps p8 p5 : List (Value × En)) (ys : List Nat) (ao : Option Addr) (cap : Nat) (v8 v5 : Value) (w0 : World) (h0 : DBag w0.heap.size w0 (.slice ao ps.length cap) ps) (hps : ∀ p ∈ ps, p.2.row.length ≤ 16 ∧ I64 p.2.count) (hl : ps.length ≤ 100000) (h8 : RBag w0 v8 p8) (h5 : RBag w0 v5 p5) (hpq : p8.map (·.2) = p5.map (·.2)) : Ob Try.prog (c9bops ps0).toArray (c9bL ps p8 p5 ys ao cap v8 v5) 84 w0 (c9bp5 ps0) := ob_eqS rfl rfl trivial ⟨by decide, fun _ _ h => h⟩ ⟨by decide, fun _ _ h => h⟩ rfl (fun _ => rfl)
set_option maxRecDepth 100000 in
theorem c9b_o6 (ps0 : String) (ps p8 p5 : List (Value × En)) (ys : List Nat) (ao : Option Addr) (cap : Nat) (v8 v5 : Value) (w0 : World) (h0 : DBag w0.heap.size w0 (.slice ao ps.length cap) ps) (hps : ∀ p ∈ ps, p.2.row.length ≤ 16 ∧ I64 p.2.count) (hl : ps.length ≤ 100000) (h8 : RBag w0 v8 p8) (h5 : RBag w0 v5 p5) (hpq : p8.map (·.2) = p5.map (·.2)) : Ob Try.prog (c9bops ps0).toArray (c9bL ps p8 p5 ys ao cap v8 v5) 84 w0 (c9bp6 ps0) := ob_move 64 65 rfl rfl (by decide) trivial (fun _ _ h => h)
set_option maxRecDepth 100000 in
theorem c9b_o7 (ps0 : String) (ps p8 p5 : List (Value × En)) (ys : List Nat) (ao : Option Addr) (cap : Nat) (v8 v5 : Value) (w0 : World) (h0 : DBag w0.heap.size w0 (.slice ao ps.length cap) ps) (hps : ∀ p ∈ ps, p.2.row.length ≤ 16 ∧ I64 p.2.count) (hl : ps.length ≤ 100000) (h8 : RBag w0 v8 p8) (h5 : RBag w0 v5 p5) (hpq : p8.map (·.2) = p5.map (·.2)) : Ob Try.prog (c9bops ps0).toArray (c9bL ps p8 p5 ys ao cap v8 v5) 84 w0 (c9bp7 ps0) := ob_move 10 66 rfl rfl (by decide) ⟨65, rfl, by decide, fun _ _ h => h⟩ (fun _ _ h => h)
set_option maxRecDepth 100000 in
theorem c9b_o8 (ps0 : String) (ps p8 p5 : List (Value × En)) (ys : List Nat) (ao : Option Addr) (cap : Nat) (v8 v5 : Value) (w0 : World) (h0 : DBag w0.heap.size w0 (.slice ao ps.length cap) ps) (hps : ∀ p ∈ ps, p.2.row.length ≤ 16 ∧ I64 p.2.count) (hl : ps.length ≤ 100000) (h8 : RBag w0 v8 p8) (h5 : RBag w0 v5 p5) (hpq : p8.map (·.2) = p5.map (·.2)) : Ob Try.prog (c9bops ps0).toArray (c9bL ps p8 p5 ys ao cap v8 v5) 84 w0 (c9bp8 ps0) := ob_eqI rfl rfl ⟨65, rfl, by decide, fun _ _ h => h⟩ ⟨by decide, fun _ _ h => h⟩ rfl rfl (fun _ => rfl)
set_option maxRecDepth 100000 in
theorem c9b_o9 (ps0 : String) (ps p8 p5 : List (Value × En)) (ys : List Nat) (ao : Option Addr) (cap : Nat) (v8 v5 : Value) (w0 : World) (h0 : DBag w0.heap.size w0 (.slice ao ps.length cap) ps) (hps : ∀ p ∈ ps, p.2.row.length ≤ 16 ∧ I64 p.2.count) (hl : ps.length ≤ 100000) (h8 : RBag w0 v8 p8) (h5 : RBag w0 v5 p5) (hpq : p8.map (·.2) = p5.map (·.2)) : Ob Try.prog (c9bops ps0).toArray (c9bL ps p8 p5 ys ao cap v8 v5) 84 w0 (c9bp9 ps0) := ob_pick rfl rfl trivial ⟨by decide, fun _ _ h => h⟩ ⟨by decide, fun _ _ h => h⟩ (fun _ => rfl)
set_option maxRecDepth 100000 in
theorem c9b_o10 (ps0 : String) (ps p8 p5 : List (Value × En)) (ys : List Nat) (ao : Option Addr) (cap : Nat) (v8 v5 : Value) (w0 : World) (h0 : DBag w0.heap.size w0 (.slice ao ps.length cap) ps) (hps : ∀ p ∈ ps, p.2.row.length ≤ 16 ∧ I64 p.2.count) (hl : ps.length ≤ 100000) (h8 : RBag w0 v8 p8) (h5 : RBag w0 v5 p5) (hpq : p8.map (·.2) = p5.map (·.2)) : Ob Try.prog (c9bops ps0).toArray (c9bL ps p8 p5 ys ao cap v8 v5) 84 w0 (c9bp10 ps0) := ob_move 68 69 rfl rfl (by decide) trivial (fun _ _ h => h)
set_option maxRecDepth 100000 in
theorem c9b_o11 (ps0 : String) (ps p8 p5 : List (Value × En)) (ys : List Nat) (ao : Option Addr) (cap : Nat) (v8 v5 : Value) (w0 : World) (h0 : DBag w0.heap.size w0 (.slice ao ps.length cap) ps) (hps : ∀ p ∈ ps, p.2.row.length ≤ 16 ∧ I64 p.2.count) (hl : ps.length ≤ 100000) (h8 : RBag w0 v8 p8) (h5 : RBag w0 v5 p5) (hpq : p8.map (·.2) = p5.map (·.2)) : Ob Try.prog (c9bops ps0).toArray (c9bL ps p8 p5 ys ao cap v8 v5) 84 w0 (c9bp11 ps0) := ob_move 8 70 rfl rfl (by decide) ⟨69, rfl, by decide, fun _ _ h => h⟩ (fun _ _ h => h)
set_option maxRecDepth 100000 in
theorem c9b_o12 (ps0 : String) (ps p8 p5 : List (Value × En)) (ys : List Nat) (ao : Option Addr) (cap : Nat) (v8 v5 : Value) (w0 : World) (h0 : DBag w0.heap.size w0 (.slice ao ps.length cap) ps) (hps : ∀ p ∈ ps, p.2.row.length ≤ 16 ∧ I64 p.2.count) (hl : ps.length ≤ 100000) (h8 : RBag w0 v8 p8) (h5 : RBag w0 v5 p5) (hpq : p8.map (·.2) = p5.map (·.2)) : Ob Try.prog (c9bops ps0).toArray (c9bL ps p8 p5 ys ao cap v8 v5) 84 w0 (c9bp12 ps0) := ob_move 5 71 rfl rfl (by decide) ⟨69, rfl, by decide, fun _ _ h => h⟩ (fun _ _ h => h)
set_option maxRecDepth 100000 in
theorem c9b_o13 (ps0 : String) (ps p8 p5 : List (Value × En)) (ys : List Nat) (ao : Option Addr) (cap : Nat) (v8 v5 : Value) (w0 : World) (h0 : DBag w0.heap.size w0 (.slice ao ps.length cap) ps) (hps : ∀ p ∈ ps, p.2.row.length ≤ 16 ∧ I64 p.2.count) (hl : ps.length ≤ 100000) (h8 : RBag w0 v8 p8) (h5 : RBag w0 v5 p5) (hpq : p8.map (·.2) = p5.map (·.2)) : Ob Try.prog (c9bops ps0).toArray (c9bL ps p8 p5 ys ao cap v8 v5) 84 w0 (c9bp13 ps0) := ob_call2 [v8, v5] rfl rfl ⟨69, rfl, by decide, fun _ _ h => h⟩ ⟨⟨by decide, fun _ _ h => h⟩, ⟨by decide, fun _ _ h => h⟩, trivial⟩ (fun w hw => (sameBag_walk _ _ p8 p5 w (h8.kn hw) (h5.kn hw) hpq).mono fun e w1 ⟨he, hg⟩ => ⟨_, he, hg, rfl⟩) (enter_of Try.func50 (by kernel_rfl) rfl)
set_option maxRecDepth 100000 in
theorem c9b_o14 (ps0 : String) (ps p8 p5 : List (Value × En)) (ys : List Nat) (ao : Option Addr) (cap : Nat) (v8 v5 : Value) (w0 : World) (h0 : DBag w0.heap.size w0 (.slice ao ps.length cap) ps) (hps : ∀ p ∈ ps, p.2.row.length ≤ 16 ∧ I64 p.2.count) (hl : ps.length ≤ 100000) (h8 : RBag w0 v8 p8) (h5 : RBag w0 v5 p5) (hpq : p8.map (·.2) = p5.map (·.2)) : Ob Try.prog (c9bops ps0).toArray (c9bL ps p8 p5 ys ao cap v8 v5) 84 w0 (c9bp14 ps0) := ob_pick rfl rfl trivial ⟨by decide, fun _ _ h => h⟩ ⟨by decide, fun _ _ h => h⟩ (fun _ => rfl)
set_option maxRecDepth 100000 in
theorem c9b_o15 (ps0 : String) (ps p8 p5 : List (Value × En)) (ys : List Nat) (ao : Option Addr) (cap : Nat) (v8 v5 : Value) (w0 : World) (h0 : DBag w0.heap.size w0 (.slice ao ps.length cap) ps) (hps : ∀ p ∈ ps, p.2.row.length ≤ 16 ∧ I64 p.2.count) (hl : ps.length ≤ 100000) (h8 : RBag w0 v8 p8) (h5 : RBag w0 v5 p5) (hpq : p8.map (·.2) = p5.map (·.2)) : Ob Try.prog (c9bops ps0).toArray (c9bL ps p8 p5 ys ao cap v8 v5) 84 w0 (c9bp15 ps0) := ob_move 73 74 rfl rfl (by decide) trivial (fun _ _ h => h)
set_option maxRecDepth 100000 in
theorem c9b_o16 (ps0 : String) (ps p8 p5 : List (Value × En)) (ys : List Nat) (ao : Option Addr) (cap : Nat) (v8 v5 : Value) (w0 : World) (h0 : DBag w0.heap.size w0 (.slice ao ps.length cap) ps) (hps : ∀ p ∈ ps, p.2.row.length ≤ 16 ∧ I64 p.2.count) (hl : ps.length ≤ 100000) (h8 : RBag w0 v8 p8) (h5 : RBag w0 v5 p5) (hpq : p8.map (·.2) = p5.map (·.2)) : Ob Try.prog (c9bops ps0).toArray (c9bL ps p8 p5 ys ao cap v8 v5) 84 w0 (c9bp16 ps0) := ob_move 9 75 rfl rfl (by decide) ⟨74, rfl, by decide, fun _ _ h => h⟩ (fun _ _ h => h)
set_option maxRecDepth 100000 in
theorem c9b_o17 (ps0 : String) (ps p8 p5 : List (Value × En)) (ys : List Nat) (ao : Option Addr) (cap : Nat) (v8 v5 : Value) (w0 : World) (h0 : DBag w0.heap.size w0 (.slice ao ps.length cap) ps) (hps : ∀ p ∈ ps, p.2.row.length ≤ 16 ∧ I64 p.2.count) (hl : ps.length ≤ 100000) (h8 : RBag w0 v8 p8) (h5 : RBag w0 v5 p5) (hpq : p8.map (·.2) = p5.map (·.2)) : Ob Try.prog (c9bops ps0).toArray (c9bL ps p8 p5 ys ao cap v8 v5) 84 w0 (c9bp17 ps0) := ob_conv 75 76 22 9 5 Try.underlying22 Try.underlying5 Try.underlying9 ys rfl rfl (by decide) ⟨74, rfl, by decide, fun _ _ h => h⟩ (fun _ _ _ h => h) (fun _ => rfl)
set_option maxRecDepth 100000 in
theorem c9b_o18 (ps0 : String) (ps p8 p5 : List (Value × En)) (ys : List Nat) (ao : Option Addr) (cap : Nat) (v8 v5 : Value) (w0 : World) (h0 : DBag w0.heap.size w0 (.slice ao ps.length cap) ps) (hps : ∀ p ∈ ps, p.2.row.length ≤ 16 ∧ I64 p.2.count) (hl : ps.length ≤ 100000) (h8 : RBag w0 v8 p8) (h5 : RBag w0 v5 p5) (hpq : p8.map (·.2) = p5.map (·.2)) : Ob Try.prog (c9bops ps0).toArray (c9bL ps p8 p5 ys ao cap v8 v5) 84 w0 (c9bp18 ps0) := ob_move 1 77 rfl rfl (by decide) ⟨74, rfl, by decide, fun _ _ h => h⟩ (fun _ _ h => h)
set_option maxRecDepth 100000 in
theorem c9b_o19 (ps0 : String) (ps p8 p5 : List (Value × En)) (ys : List Nat) (ao : Option Addr) (cap : Nat) (v8 v5 : Value) (w0 : World) (h0 : DBag w0.heap.size w0 (.slice ao ps.length cap) ps) (hps : ∀ p ∈ ps, p.2.row.length ≤ 16 ∧ I64 p.2.count) (hl : ps.length ≤ 100000) (h8 : RBag w0 v8 p8) (h5 : RBag w0 v5 p5) (hpq : p8.map (·.2) = p5.map (·.2)) : Ob Try.prog (c9bops ps0).toArray (c9bL ps p8 p5 ys ao cap v8 v5) 84 w0 (c9bp19 ps0) := ob_conv 77 78 22 9 5 Try.underlying22 Try.underlying5 Try.underlying9 ys rfl rfl (by decide) ⟨74, rfl, by decide, fun _ _ h => h⟩ (fun _ _ _ h => h) (fun _ => rfl)
set_option maxRecDepth 100000 in
theorem c9b_o20 (ps0 : String) (ps p8 p5 : List (Value × En)) (ys : List Nat) (ao : Option Addr) (cap : Nat) (v8 v5 : Value) (w0 : World) (h0 : DBag w0.heap.size w0 (.slice ao ps.length cap) ps) (hps : ∀ p ∈ ps, p.2.row.length ≤ 16 ∧ I64 p.2.count) (hl : ps.length ≤ 100000) (h8 : RBag w0 v8 p8) (h5 : RBag w0 v5 p5) (hpq : p8.map (·.2) = p5.map (·.2)) : Ob Try.prog (c9bops ps0).toArray (c9bL ps p8 p5 ys ao cap v8 v5) 84 w0 (c9bp20 ps0) := ob_eqS rfl rfl ⟨74, rfl, by decide, fun _ _ h => h⟩ ⟨by decide, fun _ _ h => h⟩ ⟨by decide, fun _ _ h => h⟩ rfl (fun _ => rfl)
set_option maxRecDepth 100000 in
theorem c9b_o21 (ps0 : String) (ps p8 p5 : List (Value × En)) (ys : List Nat) (ao : Option Addr) (cap : Nat) (v8 v5 : Value) (w0 : World) (h0 : DBag w0.heap.size w0 (.slice ao ps.length cap) ps) (hps : ∀ p ∈ ps, p.2.row.length ≤ 16 ∧ I64 p.2.count) (hl : ps.length ≤ 100000) (h8 : RBag w0 v8 p8) (h5 : RBag w0 v5 p5) (hpq : p8.map (·.2) = p5.map (·.2)) : Ob Try.prog (c9bops ps0).toArray (c9bL ps p8 p5 ys ao cap v8 v5) 84 w0 (c9bp21 ps0) := ob_pick rfl rfl trivial ⟨by decide, fun _ _ h => h⟩ ⟨by decide, fun _ _ h => h⟩ (fun _ => rfl)
set_option maxRecDepth 100000 in
theorem c9b_o22 (ps0 : String) (ps p8 p5 : List (Value × En)) (ys : List Nat) (ao : Option Addr) (cap : Nat) (v8 v5 : Value) (w0 : World) (h0 : DBag w0.heap.size w0 (.slice ao ps.length cap) ps) (hps : ∀ p ∈ ps, p.2.row.length ≤ 16 ∧ I64 p.2.count) (hl : ps.length ≤ 100000) (h8 : RBag w0 v8 p8) (h5 : RBag w0 v5 p5) (hpq : p8.map (·.2) = p5.map (·.2)) : Ob Try.prog (c9bops ps0).toArray (c9bL ps p8 p5 ys ao cap v8 v5) 84 w0 (c9bp22 ps0) := ob_move 80 81 rfl rfl (by decide) trivial (fun _ _ h => h)
set_option maxRecDepth 100000 in
theorem c9b_o23 (ps0 : String) (ps p8 p5 : List (Value × En)) (ys : List Nat) (ao : Option Addr) (cap : Nat) (v8 v5 : Value) (w0 : World) (h0 : DBag w0.heap.size w0 (.slice ao ps.length cap) ps) (hps : ∀ p ∈ ps, p.2.row.length ≤ 16 ∧ I64 p.2.count) (hl : ps.length ≤ 100000) (h8 : RBag w0 v8 p8) (h5 : RBag w0 v5 p5) (hpq : p8.map (·.2) = p5.map (·.2)) : Ob Try.prog (c9bops ps0).toArray (c9bL ps p8 p5 ys ao cap v8 v5) 84 w0 (c9bp23 ps0) := ob_call2 [] rfl rfl ⟨81, rfl, by decide, fun _ _ h => h⟩ trivial (fun w hw => (awake_walk w).mono fun e w1 ⟨he, hg⟩ => ⟨_, he, hg, rfl⟩) (enter_of Try.func18 (by kernel_rfl) rfl)
set_option maxRecDepth 100000 in
theorem c9b_o24 (ps0 : String) (ps p8 p5 : List (Value × En)) (ys : List Nat) (ao : Option Addr) (cap : Nat) (v8 v5 : Value) (w0 : World) (h0 : DBag w0.heap.size w0 (.slice ao ps.length cap) ps) (hps : ∀ p ∈ ps, p.2.row.length ≤ 16 ∧ I64 p.2.count) (hl : ps.length ≤ 100000) (h8 : RBag w0 v8 p8) (h5 : RBag w0 v5 p5) (hpq : p8.map (·.2) = p5.map (·.2)) : Ob Try.prog (c9bops ps0).toArray (c9bL ps p8 p5 ys ao cap v8 v5) 84 w0 (c9bp24 ps0) := ob_pick rfl rfl trivial ⟨by decide, fun _ _ h => h⟩ ⟨by decide, fun _ _ h => h⟩ (fun _ => rfl)
set_option maxRecDepth 100000 in
theorem c9b_o25 (ps0 : String) (ps p8 p5 : List (Value × En)) (ys : List Nat) (ao : Option Addr) (cap : Nat) (v8 v5 : Value) (w0 : World) (h0 : DBag w0.heap.size w0 (.slice ao ps.length cap) ps) (hps : ∀ p ∈ ps, p.2.row.length ≤ 16 ∧ I64 p.2.count) (hl : ps.length ≤ 100000) (h8 : RBag w0 v8 p8) (h5 : RBag w0 v5 p5) (hpq : p8.map (·.2) = p5.map (·.2)) : Ob Try.prog (c9bops ps0).toArray (c9bL ps p8 p5 ys ao cap v8 v5) 84 w0 (c9bp25 ps0) := ob_assign 83 4 rfl rfl (by decide) trivial (fun _ _ h => h)
set_option maxRecDepth 100000 in
theorem c9b_ob (ps0 : String) (ps p8 p5 : List (Value × En)) (ys : List Nat) (ao : Option Addr) (cap : Nat) (v8 v5 : Value) (w0 : World) (h0 : DBag w0.heap.size w0 (.slice ao ps.length cap) ps) (hps : ∀ p ∈ ps, p.2.row.length ≤ 16 ∧ I64 p.2.count) (hl : ps.length ≤ 100000) (h8 : RBag w0 v8 p8) (h5 : RBag w0 v5 p5) (hpq : p8.map (·.2) = p5.map (·.2)) : ObAll Try.prog (c9bops ps0).toArray (c9bL ps p8 p5 ys ao cap v8 v5) 84 w0 (c9bops ps0) := ⟨c9b_o0 ps0 ps p8 p5 ys ao cap v8 v5 w0 h0 hps hl h8 h5 hpq, c9b_o1 ps0 ps p8 p5 ys ao cap v8 v5 w0 h0 hps hl h8 h5 hpq, c9b_o2 ps0 ps p8 p5 ys ao cap v8 v5 w0 h0 hps hl h8 h5 hpq, c9b_o3 ps0 ps p8 p5 ys ao cap v8 v5 w0 h0 hps hl h8 h5 hpq, c9b_o4 ps0 ps p8 p5 ys ao cap v8 v5 w0 h0 hps hl h8 h5 hpq, c9b_o5 ps0 ps p8 p5 ys ao cap v8 v5 w0 h0 hps hl h8 h5 hpq, c9b_o6 ps0 ps p8 p5 ys ao cap v8 v5 w0 h0 hps hl h8 h5 hpq, c9b_o7 ps0 ps p8 p5 ys ao cap v8 v5 w0 h0 hps hl h8 h5 hpq, c9b_o8 ps0 ps p8 p5 ys ao cap v8 v5 w0 h0 hps hl h8 h5 hpq, c9b_o9 ps0 ps p8 p5 ys ao cap v8 v5 w0 h0 hps hl h8 h5 hpq, c9b_o10 ps0 ps p8 p5 ys ao cap v8 v5 w0 h0 hps hl h8 h5 hpq, c9b_o11 ps0 ps p8 p5 ys ao cap v8 v5 w0 h0 hps hl h8 h5 hpq, c9b_o12 ps0 ps p8 p5 ys ao cap v8 v5 w0 h0 hps hl h8 h5 hpq, c9b_o13 ps0 ps p8 p5 ys ao cap v8 v5 w0 h0 hps hl h8 h5 hpq, c9b_o14 ps0 ps p8 p5 ys ao cap v8 v5 w0 h0 hps hl h8 h5 hpq, c9b_o15 ps0 ps p8 p5 ys ao cap v8 v5 w0 h0 hps hl h8 h5 hpq, c9b_o16 ps0 ps p8 p5 ys ao cap v8 v5 w0 h0 hps hl h8 h5 hpq, c9b_o17 ps0 ps p8 p5 ys ao cap v8 v5 w0 h0 hps hl h8 h5 hpq, c9b_o18 ps0 ps p8 p5 ys ao cap v8 v5 w0 h0 hps hl h8 h5 hpq, c9b_o19 ps0 ps p8 p5 ys ao cap v8 v5 w0 h0 hps hl h8 h5 hpq, c9b_o20 ps0 ps p8 p5 ys ao cap v8 v5 w0 h0 hps hl h8 h5 hpq, c9b_o21 ps0 ps p8 p5 ys ao cap v8 v5 w0 h0 hps hl h8 h5 hpq, c9b_o22 ps0 ps p8 p5 ys ao cap v8 v5 w0 h0 hps hl h8 h5 hpq, c9b_o23 ps0 ps p8 p5 ys ao cap v8 v5 w0 h0 hps hl h8 h5 hpq, c9b_o24 ps0 ps p8 p5 ys ao cap v8 v5 w0 h0 hps hl h8 h5 hpq, c9b_o25 ps0 ps p8 p5 ys ao cap v8 v5 w0 h0 hps hl h8 h5 hpq, trivial⟩

theorem encEn_byte (x : En) : ∀ b ∈ encEn x, b < 256 := app_byte (encRow_byte _) (enc_byte _)
theorem encBag_byte (l : List En) : ∀ b ∈ encBag l, b < 256 := app_byte (enc_byte _) (flat_byte fun x _ => encEn_byte x)
set_option maxRecDepth 100000 in
theorem shortS_walk (ao : Option Addr) (n cap : Nat) (w : World) (hcm : cap ≤ 9223372036854775807) (hnc : n ≤ cap) : Calls Try.prog 37 #[.slice ao n cap] w fun e w' => e = .returned (.bool (decide (n ≤ 16))) ∧ w = w' := by
  go_enter Try.func37, Try.ntmps37
  by_cases h : n ≤ 16
  all_goals
    go_wp2
    go_ret
    exact ⟨congrArg (fun b => Ending.returned (.bool b)) (by rw [Bool.eq_iff_iff]; simp; omega), rfl⟩
set_option maxRecDepth 100000 in
set_option maxHeartbeats 1000000 in
theorem codecBags_walk (s rest : Value) (ps : List (Value × En)) (ys : List Nat) (w : World) (hs : Sl w 2 s ps.length (ps.flatMap ecells)) (hsl : Lo s w.heap.size) (hp : ∀ p ∈ ps, DRow w.heap.size w p.1 p.2.row ∧ I64 p.2.count)
    (hrest : Sl w 1 rest ys.length (bv ys)) (hrsl : Lo rest w.heap.size) (hy : ∀ y ∈ ys, y < 256) :
    Calls Try.prog 9 #[s, rest] w fun e w' => e = .returned (.bool true) ∧ w.grownBy w' none := by
  obtain ⟨ao, cap, rfl, hnc, hcm⟩ := hs.shape
  obtain ⟨ao3, cap3, rfl, hnc3, hcm3⟩ := hrest.shape
  have HS := hid (show DBag w.heap.size w (.slice ao ps.length cap) ps from ⟨hs, hsl, fun p h => (hp p h).1⟩)
  have HP := hid (fun p (h : p ∈ ps) => (hp p h).2)
  have HR := hid (And.intro hrest hrsl)
  have HY := hid hy
  clear hs hsl hp hrest hrsl hy
  by_cases h1 : 30 < ps.length
  · have d1 : decide (30 < ps.length) = true := decide_eq_true h1
    go_enter Try.func9, Try.ntmps9
    go_wp2_with (go_at_call 18; refine (awake_walk _).mono ?_; rintro e w' ⟨rfl, hg⟩)
    go_ret
    exact ⟨rfl, hg⟩
  have d1 : decide (30 < ps.length) = false := decide_eq_false h1
  by_cases h3 : 100 < ys.length
  · have d3 : decide (100 < ys.length) = true := decide_eq_true h3
    go_enter Try.func9, Try.ntmps9
    go_wp2_with (go_at_call 18; refine (awake_walk _).mono ?_; rintro e w' ⟨rfl, hg⟩)
    go_ret
    exact ⟨rfl, hg⟩
  have d3 : decide (100 < ys.length) = false := decide_eq_false h3
  go_enter Try.func9, Try.ntmps9
  go_wp2
  go_loopw [5, 6] (fun b i wr => ∃ (k : Nat) (qs : List (Value × En)), k ≤ ps.length ∧ i = .int .i64 k ∧ Own wr 78 2 b k (qs.flatMap ecells) ∧ Fresh w wr b ∧ qs.map (·.2) = (ps.take k).map (fun p : Value × En => (⟨p.2.row.map V.clean, p.2.count⟩ : En)) ∧ (∀ q ∈ qs, Own wr 67 3 q.1 q.2.row.length (q.2.row.flatMap vcells)) ∧ (∀ p ∈ ps.take k, p.2.row.length ≤ 16)) (fun _ i _ => ps.length - (intOf i).toNat)
  case atStart => exact ⟨0, [], Nat.zero_le _, rfl, Own.nil _ _ _, Step.refl _ _, rfl, by simp, by simp⟩
  case round =>
    obtain ⟨k, qs, hk, rfl, hown, hst, hqs, hqo, hsh⟩ := hrel
    have OK := hid hown
    have SK := hid hst
    have QK := hid (And.intro hqs hqo)
    have SH := hid hsh
    clear hown hst hqs hqo hsh
    by_cases hlt : k < ps.length
    · obtain ⟨blk, off, rfl, hc⟩ := (HS.out.1.kn (Step.none SK.out)).elem (fun x _ => rfl) (by decide) k hlt
      have h0 : wr.cell? ⟨blk, off + k * 2, none⟩ = some ps[k].1 := hc 0 _ rfl
      have h1 : wr.cell? ⟨blk, off + k * 2 + 1, none⟩ = some (.int .i64 ps[k].2.count) := hc 1 _ rfl
      have XK := hid (HS.out.2.2 _ (List.getElem_mem hlt))
      have HC := hid (HP.out _ (List.getElem_mem hlt))
      have HT := hid (List.take_succ_eq_append_getElem hlt)
      have hblk : blk < w.heap.size := HS.out.2.1 blk rfl
      generalize ps[k] = p at *
      clear hc
      obtain ⟨rv, x⟩ := p
      simp only at *
      have XK : Hid (DRow w.heap.size w rv x.row) := XK
      have HC : Hid (I64 x.count) := HC
      obtain ⟨ao2, cap2, hrv, hnc2, hcm2⟩ := XK.out.1.shape
      subst hrv
      have hnb : some blk ≠ u5.ownBlock := fun e => by
        have h9 := SK.out.lo blk e.symm
        omega
      have hsw : ∃ xs, Sl wr 3 (.slice ao2 x.row.length cap2) x.row.length xs ∨ True := ⟨[], .inr trivial⟩
      clear hsw
      by_cases hsr : ¬ x.row.length ≤ 16
      · have dsr : decide (x.row.length ≤ 16) = false := decide_eq_false hsr
        have hne : x.row ≠ [] := fun e => hsr (by rw [e]; simp)
        go_wp2_with fail
        refine (short_walk _ _ _ _ ((XK.out.2 hne).1.kn (Step.none SK.out))).mono ?_
        rintro e w' ⟨rfl, rfl⟩
        go_wp2_with (go_at_call 18; refine (awake_walk _).mono ?_; rintro e w' ⟨rfl, hg⟩)
        go_ret
        exact ⟨rfl, grown_trans (Step.none SK.out) hg⟩
      have hsr : x.row.length ≤ 16 := by omega
      have dsr : decide (x.row.length ≤ 16) = true := decide_eq_true hsr
      go_wp2_with fail
      refine (shortS_walk ao2 x.row.length cap2 wr hcm2 hnc2).mono ?_
      rintro e w' ⟨rfl, rfl⟩
      go_wp2
      go_region_held3 (fun w' => w'.cell? ⟨blk, off + k * 2, none⟩ = some (.slice ao2 x.row.length cap2) ∧ w'.cell? ⟨blk, off + k * 2 + 1, none⟩ = some (.int .i64 x.count)) (first | go_keep | exact ⟨c0, c1⟩ | exact ⟨d0, d1⟩ | fail)
        (first
          | (refine step_callS rfl 46 #[.tmp 39] #[60] rfl enterCRow #[.slice ao2 x.row.length cap2] (by simp [Act.eval]) (clean_call XK.out (Nat.le_refl _) (Step.none SK.out) (by omega)) ?_
             rintro e w3 ⟨ao4, cap4, rfl, M3⟩
             refine ⟨_, rfl, ?_⟩
             have c0 := grown_cell (Step.none M3.out.2) h0 (by simp)
             have c1 := grown_cell (Step.none M3.out.2) h1 (by simp))
          | (refine step_pushS bagT rfl (.tmp 34) (.tmp 47) rfl u5 _ _ rfl [.slice ao4 x.row.length cap4, .int .i64 x.count] 1 w3.heap.size ((OK.out.kn (Step.none M3.out.2)).alloc _) rfl rfl rfl rfl (by omega) ?_
             intro ad9 cap9 w5 hown5 hst5
             have d0 := grown_cell hst5.1 (grown_cell (World.grownBy_alloc _ _ none) c0 (by simp)) hnb
             have d1 := grown_cell hst5.1 (grown_cell (World.grownBy_alloc _ _ none) c1 (by simp)) hnb
             have M5 := hid (And.intro hown5 hst5)
             clear hown5 hst5)
          | fail)
      have g3 := Step.none M3.out.2
      have hap := (OK.out.kn g3).alloc (.cells #[.slice ao4 x.row.length cap4, .int .i64 x.count] 78)
      have S5 := hid (show Fresh w w5 (.slice ad9 (k + 1) cap9) from Step.trans SK.out (Step.grown g3 (Step.alloc M5.out.2)))
      have Q5 := hid (show ∀ q ∈ qs ++ [((.slice ao4 x.row.length cap4 : Value), (⟨x.row.map V.clean, x.count⟩ : En))], Own w5 67 3 q.1 q.2.row.length (q.2.row.flatMap vcells) from fun q hq => by
        rcases List.mem_append.1 hq with h | h
        · exact Own.other (((QK.out.2 q h).kn g3).alloc _) hap M5.out.2 (by decide)
        · simp only [List.mem_singleton] at h
          subst h
          simp only [List.length_map]
          exact Own.other (M3.out.1.alloc _) hap M5.out.2 (by decide))
      have O5 := hid M5.out.1
      clear g3 hap d0 d1 c0 c1 h0 h1
      go_wp2
      go_roundw
      case rel => exact ⟨k + 1, _, by omega, by go_num, by rw [List.flatMap_append]; exact O5.out, S5.out, by rw [HT.out, List.map_append, List.map_append, QK.out.1]; rfl, Q5.out, fun p hp => by rw [HT.out] at hp; rcases List.mem_append.1 hp with h | h; exact SH.out p h; simp only [List.mem_singleton] at h; subst h; exact hsr⟩
      case measure => simp [intOf]; omega
    · obtain rfl : k = ps.length := by omega
      have hS : ∀ p ∈ ps, p.2.row.length ≤ 16 ∧ I64 p.2.count := fun p hp => ⟨SH.out p (by rw [List.take_length]; exact hp), HP.out p hp⟩
      have HSP := hid hS
      have hQ1 := QK.out.1
      rw [List.take_length] at hQ1
      have HQ1 := hid hQ1
      have hel := encBag_len (ps.map (·.2)) (by rw [List.length_map]; omega) (fun x hx => by obtain ⟨p, hp, rfl⟩ := List.mem_map.1 hx; exact hS p hp)
      rw [List.length_map] at hel
      have HEL := hid hel
      have gw := Step.none SK.out
      have GW := hid gw
      clear hS hQ1 hel gw
      go_wp2_with fail
      refine (appendBag_walk nilS _ ps [] wr (Sl.nil _ _) (fun k hk => by simp [Value.ownBlock] at hk) ⟨HS.out.1.kn GW.out, HS.out.2.1.mono GW.out.size, fun p hp => ((HS.out.2.2 p hp).grown GW.out).mono GW.out.size⟩ HSP.out (by omega) (by simp)).mono ?_
      rintro e w5 ⟨v5, rfl, hown5, hf5⟩
      rw [List.nil_append] at hown5
      have O5 := hid hown5
      have G5 := hid (Step.none hf5)
      clear hown5 hf5
      go_wp2_with fail
      refine (join_walk _ _ (encBag (ps.map (·.2))) ys _ (Sl.of_own O5.out) (HR.out.1.kn (grown_trans GW.out G5.out)) (by have := HEL.out; omega)).mono ?_
      rintro e w6 ⟨v6, rfl, hown6, hf6⟩
      have G6 := hid (Step.none hf6)
      have hlo6 : Lo v6 w6.heap.size := fun k hk => Own.lt hown6 k hk
      have O6 := hid (And.intro hown6 hlo6)
      clear hown6 hf6 hlo6
      go_wp2_with fail
      refine (rdxBag_walk v6 (encBag (ps.map (·.2)) ++ ys) w6 (Sl.of_own O6.out.1) (by have := HEL.out; rw [List.length_append]; omega) (app_byte (encBag_byte _) HY.out) O6.out.2).mono ?_
      intro e w7 h7
      obtain ⟨g7, m7, rv7, rfl, hrep7, hs7, _⟩ := h7.ok ((cd_bag (ps.map (·.2)) (by rw [List.length_map]; omega) (fun x hx => by obtain ⟨p, hp, rfl⟩ := List.mem_map.1 hx; exact HSP.out p hp)).rt ys)
      obtain ⟨ao7, cap7, rfl, _, _⟩ := hs7.shape
      obtain ⟨p8, hp8, hsl8, _, hrw8⟩ := hrep7
      obtain ⟨ao8, cap8, rfl, _, _⟩ := hsl8.shape
      have S7 := hid hs7
      have R7 := hid (show RBag w7 (.slice ao8 p8.length cap8) p8 from ⟨hsl8, fun p hp => (hrw8 p hp).sl⟩)
      have P8 := hid hp8
      have G57 := hid (grown_trans G6.out g7)
      clear h7 hs7 hp8 hsl8 hrw8 g7
      go_wp2_with fail
      have gr7 := grown_trans G5.out G57.out
      have gt := grown_trans GW.out gr7
      have GT := hid gt
      have h0 : DBag w7.heap.size w7 (.slice ao ps.length cap) ps := ⟨HS.out.1.kn gt, HS.out.2.1.mono gt.size, fun p hp => ((HS.out.2.2 p hp).grown gt).mono gt.size⟩
      have h1 := HR.out.1.kn gt
      have h7 := (Sl.of_own O5.out).kn G57.out
      have h9 := S7.out
      have hql : qs.length = ps.length := by have := congrArg List.length HQ1.out; simpa using this
      have h5 : RBag w7 u5 qs := ⟨by rw [hql]; exact (Sl.of_own OK.out).kn gr7, fun q hq => (Sl.of_own (QK.out.2 q hq)).kn gr7⟩
      have hpq : p8.map (·.2) = qs.map (·.2) := by rw [P8.out, HQ1.out, List.map_map]; rfl
      refine region_list mixed (c9bL ps p8 qs ys ao cap _ u5) _ (c9b_reg _) (c9b_m _) rfl ⟨.inr rfl, .inr h1, .inr trivial, .inr trivial, .inl rfl, .inr rfl, .inr trivial, .inr h7, .inr rfl, .inr h9, .inr rfl, .inr trivial, .inr trivial, .inr trivial, .inr trivial, .inr trivial, .inr trivial, .inr trivial, .inr trivial, .inr trivial, .inr trivial, .inr trivial, .inr trivial, .inr trivial, .inr trivial, .inr trivial, .inr trivial, .inr trivial, .inr trivial, .inr trivial, .inr trivial, .inr trivial, .inr trivial, .inr trivial, .inr trivial, .inr trivial, .inr trivial, .inr trivial, .inr trivial, .inr trivial, .inr trivial, .inr trivial, .inr trivial, .inr trivial, .inr trivial, .inr trivial, .inr trivial, .inr trivial, .inr trivial, .inr trivial, .inr trivial, .inr trivial, .inr trivial, .inr trivial, .inr trivial, .inr trivial, .inr trivial, .inr trivial, .inr trivial, .inl rfl, .inl rfl, .inl rfl, .inl rfl, .inl rfl, .inl rfl, .inl rfl, .inl rfl, .inl rfl, .inl rfl, .inl rfl, .inl rfl, .inl rfl, .inl rfl, .inl rfl, .inl rfl, .inl rfl, .inl rfl, .inl rfl, .inl rfl, .inl rfl, .inl rfl, .inl rfl, .inl rfl, .inl rfl, trivial⟩ (c9b_ob _ ps p8 qs ys ao cap _ u5 _ h0 HSP.out (by omega) R7.out h5 hpq) ?_
      intro a w9 hg9 hd9 hsz hk
      have h4 := hk 4 (by show 4 < 84; decide)
      go_wp2
      refine bodyPost_ret (results_tmp rfl _ _ _) hd9 ?_
      exact ⟨congrArg _ h4, grown_trans GT.out hg9⟩
end Go.Proofs.Ytkeiffccllfkpaa
