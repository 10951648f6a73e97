import Derived.Test.YtkeiffccllfkpaaRdN9
set_option linter.unusedSimpArgs false
set_option linter.unusedVariables false
set_option maxRecDepth 100000
set_option maxHeartbeats 2000000
/- The reference's Bag; bags of equal entries compared. -/
namespace Go.Proofs.Ytkeiffccllfkpaa
open Go.RowKit
set_option linter.unusedSimpArgs false
theorem tyRowV {w : World} {v : Value} {n m : Nat} {xs : List Value} (h : Sl w n v m xs) : TY Try.prog 60 [v] v := tyRow h
set_option linter.unusedVariables false
def c126p0 (ps0 : String) : Oper := { dst := some 17, op := Go.Op.move (Go.Operand.tmp 0), type := 76, pos := ps0, after := #[], guard := none }
def c126p1 (ps0 : String) : Oper := { dst := some 18, op := Go.Op.move (Go.Operand.tmp 5), type := 3, pos := ps0, after := #[], guard := none }
def c126p2 (ps0 : String) : Oper := { dst := some 19, op := Go.Op.indexAddr 76 (Go.Operand.tmp 17) (Go.Operand.tmp 18), type := 0, pos := ps0, after := #[{ on := 0, ground := Go.Ground.data }, { on := 1, ground := Go.Ground.data }], guard := none }
def c126p3 (ps0 : String) : Oper := { dst := some 20, op := Go.Op.fieldAddr 78 (Go.Operand.tmp 19) 0, type := 0, pos := ps0, after := #[{ on := 2, ground := Go.Ground.data }], guard := none }
def c126p4 (ps0 : String) : Oper := { dst := some 21, op := Go.Op.load 60 (Go.Operand.tmp 20), type := 60, pos := ps0, after := #[{ on := 3, ground := Go.Ground.data }], guard := none }
def c126p5 (ps0 : String) : Oper := { dst := some 22, op := Go.Op.move (Go.Operand.tmp 1), type := 76, pos := ps0, after := #[], guard := none }
def c126p6 (ps0 : String) : Oper := { dst := some 23, op := Go.Op.move (Go.Operand.tmp 5), type := 3, pos := ps0, after := #[], guard := none }
def c126p7 (ps0 : String) : Oper := { dst := some 24, op := Go.Op.indexAddr 76 (Go.Operand.tmp 22) (Go.Operand.tmp 23), type := 0, pos := ps0, after := #[{ on := 5, ground := Go.Ground.data }, { on := 6, ground := Go.Ground.data }], guard := none }
def c126p8 (ps0 : String) : Oper := { dst := some 25, op := Go.Op.fieldAddr 78 (Go.Operand.tmp 24) 0, type := 0, pos := ps0, after := #[{ on := 7, ground := Go.Ground.data }], guard := none }
def c126p9 (ps0 : String) : Oper := { dst := some 26, op := Go.Op.load 60 (Go.Operand.tmp 25), type := 60, pos := ps0, after := #[{ on := 8, ground := Go.Ground.data }], guard := none }
def c126p10 (ps0 : String) : Oper := { dst := some 27, op := Go.Op.call { callee := Go.Callee.value (Go.Operand.func 121), args := #[Go.Operand.tmp 21, Go.Operand.tmp 26], argTypes := #[60, 60] }, type := 4, pos := ps0, after := #[{ on := 4, ground := Go.Ground.data }, { on := 9, ground := Go.Ground.data }], guard := none }
def c126p11 (ps0 : String) : Oper := { dst := some 28, op := Go.Op.unOp Go.UnOp.not 4 (Go.Operand.tmp 27), type := 4, pos := ps0, after := #[{ on := 10, ground := Go.Ground.data }], guard := none }
def c126p12 (ps0 : String) : Oper := { dst := some 29, op := Go.Op.move (Go.Operand.tmp 28), type := 4, pos := ps0, after := #[{ on := 11, ground := Go.Ground.data }, { on := 10, ground := Go.Ground.chain }], guard := none }
def c126p13 (ps0 : String) : Oper := { dst := some 30, op := Go.Op.move (Go.Operand.tmp 0), type := 76, pos := ps0, after := #[{ on := 12, ground := Go.Ground.guard }], guard := some (12, false) }
def c126p14 (ps0 : String) : Oper := { dst := some 31, op := Go.Op.move (Go.Operand.tmp 5), type := 3, pos := ps0, after := #[{ on := 12, ground := Go.Ground.guard }], guard := some (12, false) }
def c126p15 (ps0 : String) : Oper := { dst := some 32, op := Go.Op.indexAddr 76 (Go.Operand.tmp 30) (Go.Operand.tmp 31), type := 0, pos := ps0, after := #[{ on := 13, ground := Go.Ground.data }, { on := 14, ground := Go.Ground.data }, { on := 12, ground := Go.Ground.guard }], guard := some (12, false) }
def c126p16 (ps0 : String) : Oper := { dst := some 33, op := Go.Op.fieldAddr 78 (Go.Operand.tmp 32) 1, type := 0, pos := ps0, after := #[{ on := 15, ground := Go.Ground.data }, { on := 12, ground := Go.Ground.guard }], guard := some (12, false) }
def c126p17 (ps0 : String) : Oper := { dst := some 34, op := Go.Op.load 2 (Go.Operand.tmp 33), type := 2, pos := ps0, after := #[{ on := 16, ground := Go.Ground.data }, { on := 12, ground := Go.Ground.guard }], guard := some (12, false) }
def c126p18 (ps0 : String) : Oper := { dst := some 35, op := Go.Op.move (Go.Operand.tmp 1), type := 76, pos := ps0, after := #[{ on := 12, ground := Go.Ground.guard }], guard := some (12, false) }
def c126p19 (ps0 : String) : Oper := { dst := some 36, op := Go.Op.move (Go.Operand.tmp 5), type := 3, pos := ps0, after := #[{ on := 12, ground := Go.Ground.guard }], guard := some (12, false) }
def c126p20 (ps0 : String) : Oper := { dst := some 37, op := Go.Op.indexAddr 76 (Go.Operand.tmp 35) (Go.Operand.tmp 36), type := 0, pos := ps0, after := #[{ on := 18, ground := Go.Ground.data }, { on := 19, ground := Go.Ground.data }, { on := 12, ground := Go.Ground.guard }], guard := some (12, false) }
def c126p21 (ps0 : String) : Oper := { dst := some 38, op := Go.Op.fieldAddr 78 (Go.Operand.tmp 37) 1, type := 0, pos := ps0, after := #[{ on := 20, ground := Go.Ground.data }, { on := 12, ground := Go.Ground.guard }], guard := some (12, false) }
def c126p22 (ps0 : String) : Oper := { dst := some 39, op := Go.Op.load 2 (Go.Operand.tmp 38), type := 2, pos := ps0, after := #[{ on := 21, ground := Go.Ground.data }, { on := 12, ground := Go.Ground.guard }], guard := some (12, false) }
def c126p23 (ps0 : String) : Oper := { dst := some 40, op := Go.Op.binOp Go.BinOp.neq 2 (Go.Operand.tmp 34) (Go.Operand.tmp 39) 2, type := 4, pos := ps0, after := #[{ on := 17, ground := Go.Ground.data }, { on := 22, ground := Go.Ground.data }, { on := 12, ground := Go.Ground.guard }], guard := some (12, false) }
def c126p24 (ps0 : String) : Oper := { dst := some 41, op := Go.Op.pick (Go.Operand.tmp 29) (Go.Operand.const (Go.Value.bool true)) (Go.Operand.tmp 40), type := 4, pos := ps0, after := #[{ on := 12, ground := Go.Ground.data }, { on := 23, ground := Go.Ground.data }], guard := none }
def c126ops (ps0 : String) : List Oper := [c126p0 ps0, c126p1 ps0, c126p2 ps0, c126p3 ps0, c126p4 ps0, c126p5 ps0, c126p6 ps0, c126p7 ps0, c126p8 ps0, c126p9 ps0, c126p10 ps0, c126p11 ps0, c126p12 ps0, c126p13 ps0, c126p14 ps0, c126p15 ps0, c126p16 ps0, c126p17 ps0, c126p18 ps0, c126p19 ps0, c126p20 ps0, c126p21 ps0, c126p22 ps0, c126p23 ps0, c126p24 ps0]
def c126L (l : List V) (c : Int) (ba oa ca bb ob cb n k : Nat) (ra rb : Value) : List Sp := [Sp.is (.slice (some ⟨ba, oa, none⟩) n ca), Sp.is (.slice (some ⟨bb, ob, none⟩) n cb), Sp.any, Sp.any, Sp.any, Sp.is (.int .i64 k), Sp.any, Sp.any, Sp.any, Sp.any, Sp.any, Sp.any, Sp.any, Sp.any, Sp.any, Sp.any, Sp.any, Sp.is (.slice (some ⟨ba, oa, none⟩) n ca), Sp.is (.int .i64 k), Sp.is (.pointer (some ⟨ba, oa + k * 2, none⟩)), Sp.is (.pointer (some ⟨ba, oa + k * 2, none⟩)), Sp.is ra, Sp.is (.slice (some ⟨bb, ob, none⟩) n cb), Sp.is (.int .i64 k), Sp.is (.pointer (some ⟨bb, ob + k * 2, none⟩)), Sp.is (.pointer (some ⟨bb, ob + k * 2, none⟩)), Sp.is rb, Sp.is (.bool true), Sp.is (.bool false), Sp.is (.bool false), Sp.is (.slice (some ⟨ba, oa, none⟩) n ca), Sp.is (.int .i64 k), Sp.is (.pointer (some ⟨ba, oa + k * 2, none⟩)), Sp.is (.pointer (some ⟨ba, oa + k * 2 + 1, none⟩)), Sp.is (.int .i64 c), Sp.is (.slice (some ⟨bb, ob, none⟩) n cb), Sp.is (.int .i64 k), Sp.is (.pointer (some ⟨bb, ob + k * 2, none⟩)), Sp.is (.pointer (some ⟨bb, ob + k * 2 + 1, none⟩)), Sp.is (.int .i64 c), Sp.is (.bool false), Sp.is (.bool false)]
theorem c126_reg (ps0 : String) : regB (c126ops ps0).toArray 42 = true := by kernel_rfl
theorem c126_m (ps0 : String) : dstsB (c126ops ps0) 42 = [false, false, false, false, false, false, false, false, false, false, false, false, false, false, false, false, false, true, true, true, true, true, true, true, true, true, true, true, true, true, true, true, true, true, true, true, true, true, true, true, true, true] := by kernel_rfl
theorem c126_o0 (ps0 : String) (l : List V) (c : Int) (ba oa ca bb ob cb n k : Nat) (ra rb : Value) (w0 : World) (hk : k < n) (hna : n ≤ ca) (hnb : n ≤ cb) (hma : ca ≤ 9223372036854775807) (hmb : cb ≤ 9223372036854775807) (hra : Sl w0 3 ra l.length (l.flatMap vcells)) (hrb : Sl w0 3 rb l.length (l.flatMap vcells)) (hA0 : w0.rangeAt ba (oa + k * 2) [ra]) (hB0 : w0.rangeAt bb (ob + k * 2) [rb]) (hA1 : w0.rangeAt ba (oa + k * 2 + 1) [.int .i64 c]) (hB1 : w0.rangeAt bb (ob + k * 2 + 1) [.int .i64 c]) : Ob Try.prog (c126ops ps0).toArray (c126L l c ba oa ca bb ob cb n k ra rb) 42 w0 (c126p0 ps0) := ob_move 0 17 rfl rfl (by decide) trivial (fun _ _ h => h)
theorem c126_o1 (ps0 : String) (l : List V) (c : Int) (ba oa ca bb ob cb n k : Nat) (ra rb : Value) (w0 : World) (hk : k < n) (hna : n ≤ ca) (hnb : n ≤ cb) (hma : ca ≤ 9223372036854775807) (hmb : cb ≤ 9223372036854775807) (hra : Sl w0 3 ra l.length (l.flatMap vcells)) (hrb : Sl w0 3 rb l.length (l.flatMap vcells)) (hA0 : w0.rangeAt ba (oa + k * 2) [ra]) (hB0 : w0.rangeAt bb (ob + k * 2) [rb]) (hA1 : w0.rangeAt ba (oa + k * 2 + 1) [.int .i64 c]) (hB1 : w0.rangeAt bb (ob + k * 2 + 1) [.int .i64 c]) : Ob Try.prog (c126ops ps0).toArray (c126L l c ba oa ca bb ob cb n k ra rb) 42 w0 (c126p1 ps0) := ob_move 5 18 rfl rfl (by decide) trivial (fun _ _ h => h)
theorem c126_o2 (ps0 : String) (l : List V) (c : Int) (ba oa ca bb ob cb n k : Nat) (ra rb : Value) (w0 : World) (hk : k < n) (hna : n ≤ ca) (hnb : n ≤ cb) (hma : ca ≤ 9223372036854775807) (hmb : cb ≤ 9223372036854775807) (hra : Sl w0 3 ra l.length (l.flatMap vcells)) (hrb : Sl w0 3 rb l.length (l.flatMap vcells)) (hA0 : w0.rangeAt ba (oa + k * 2) [ra]) (hB0 : w0.rangeAt bb (ob + k * 2) [rb]) (hA1 : w0.rangeAt ba (oa + k * 2 + 1) [.int .i64 c]) (hB1 : w0.rangeAt bb (ob + k * 2 + 1) [.int .i64 c]) : Ob Try.prog (c126ops ps0).toArray (c126L l c ba oa ca bb ob cb n k ra rb) 42 w0 (c126p2 ps0) := ob_index rfl rfl trivial ⟨by decide, fun _ _ h => h⟩ ⟨by decide, fun _ _ h => h⟩ (fun w => by go_simp) (fun _ => rfl)
theorem c126_o3 (ps0 : String) (l : List V) (c : Int) (ba oa ca bb ob cb n k : Nat) (ra rb : Value) (w0 : World) (hk : k < n) (hna : n ≤ ca) (hnb : n ≤ cb) (hma : ca ≤ 9223372036854775807) (hmb : cb ≤ 9223372036854775807) (hra : Sl w0 3 ra l.length (l.flatMap vcells)) (hrb : Sl w0 3 rb l.length (l.flatMap vcells)) (hA0 : w0.rangeAt ba (oa + k * 2) [ra]) (hB0 : w0.rangeAt bb (ob + k * 2) [rb]) (hA1 : w0.rangeAt ba (oa + k * 2 + 1) [.int .i64 c]) (hB1 : w0.rangeAt bb (ob + k * 2 + 1) [.int .i64 c]) : Ob Try.prog (c126ops ps0).toArray (c126L l c ba oa ca bb ob cb n k ra rb) 42 w0 (c126p3 ps0) := ob_fieldAddr rfl rfl trivial ⟨by decide, fun _ _ h => h⟩ (fun w => by go_simp) (fun _ => rfl)
theorem c126_o4 (ps0 : String) (l : List V) (c : Int) (ba oa ca bb ob cb n k : Nat) (ra rb : Value) (w0 : World) (hk : k < n) (hna : n ≤ ca) (hnb : n ≤ cb) (hma : ca ≤ 9223372036854775807) (hmb : cb ≤ 9223372036854775807) (hra : Sl w0 3 ra l.length (l.flatMap vcells)) (hrb : Sl w0 3 rb l.length (l.flatMap vcells)) (hA0 : w0.rangeAt ba (oa + k * 2) [ra]) (hB0 : w0.rangeAt bb (ob + k * 2) [rb]) (hA1 : w0.rangeAt ba (oa + k * 2 + 1) [.int .i64 c]) (hB1 : w0.rangeAt bb (ob + k * 2 + 1) [.int .i64 c]) : Ob Try.prog (c126ops ps0).toArray (c126L l c ba oa ca bb ob cb n k ra rb) 42 w0 (c126p4 ps0) := ob_load rfl rfl trivial ⟨by decide, fun _ _ h => h⟩ (tyRowV hra) hA0 (fun _ _ => rfl)
theorem c126_o5 (ps0 : String) (l : List V) (c : Int) (ba oa ca bb ob cb n k : Nat) (ra rb : Value) (w0 : World) (hk : k < n) (hna : n ≤ ca) (hnb : n ≤ cb) (hma : ca ≤ 9223372036854775807) (hmb : cb ≤ 9223372036854775807) (hra : Sl w0 3 ra l.length (l.flatMap vcells)) (hrb : Sl w0 3 rb l.length (l.flatMap vcells)) (hA0 : w0.rangeAt ba (oa + k * 2) [ra]) (hB0 : w0.rangeAt bb (ob + k * 2) [rb]) (hA1 : w0.rangeAt ba (oa + k * 2 + 1) [.int .i64 c]) (hB1 : w0.rangeAt bb (ob + k * 2 + 1) [.int .i64 c]) : Ob Try.prog (c126ops ps0).toArray (c126L l c ba oa ca bb ob cb n k ra rb) 42 w0 (c126p5 ps0) := ob_move 1 22 rfl rfl (by decide) trivial (fun _ _ h => h)
theorem c126_o6 (ps0 : String) (l : List V) (c : Int) (ba oa ca bb ob cb n k : Nat) (ra rb : Value) (w0 : World) (hk : k < n) (hna : n ≤ ca) (hnb : n ≤ cb) (hma : ca ≤ 9223372036854775807) (hmb : cb ≤ 9223372036854775807) (hra : Sl w0 3 ra l.length (l.flatMap vcells)) (hrb : Sl w0 3 rb l.length (l.flatMap vcells)) (hA0 : w0.rangeAt ba (oa + k * 2) [ra]) (hB0 : w0.rangeAt bb (ob + k * 2) [rb]) (hA1 : w0.rangeAt ba (oa + k * 2 + 1) [.int .i64 c]) (hB1 : w0.rangeAt bb (ob + k * 2 + 1) [.int .i64 c]) : Ob Try.prog (c126ops ps0).toArray (c126L l c ba oa ca bb ob cb n k ra rb) 42 w0 (c126p6 ps0) := ob_move 5 23 rfl rfl (by decide) trivial (fun _ _ h => h)
theorem c126_o7 (ps0 : String) (l : List V) (c : Int) (ba oa ca bb ob cb n k : Nat) (ra rb : Value) (w0 : World) (hk : k < n) (hna : n ≤ ca) (hnb : n ≤ cb) (hma : ca ≤ 9223372036854775807) (hmb : cb ≤ 9223372036854775807) (hra : Sl w0 3 ra l.length (l.flatMap vcells)) (hrb : Sl w0 3 rb l.length (l.flatMap vcells)) (hA0 : w0.rangeAt ba (oa + k * 2) [ra]) (hB0 : w0.rangeAt bb (ob + k * 2) [rb]) (hA1 : w0.rangeAt ba (oa + k * 2 + 1) [.int .i64 c]) (hB1 : w0.rangeAt bb (ob + k * 2 + 1) [.int .i64 c]) : Ob Try.prog (c126ops ps0).toArray (c126L l c ba oa ca bb ob cb n k ra rb) 42 w0 (c126p7 ps0) := ob_index rfl rfl trivial ⟨by decide, fun _ _ h => h⟩ ⟨by decide, fun _ _ h => h⟩ (fun w => by go_simp) (fun _ => rfl)
theorem c126_o8 (ps0 : String) (l : List V) (c : Int) (ba oa ca bb ob cb n k : Nat) (ra rb : Value) (w0 : World) (hk : k < n) (hna : n ≤ ca) (hnb : n ≤ cb) (hma : ca ≤ 9223372036854775807) (hmb : cb ≤ 9223372036854775807) (hra : Sl w0 3 ra l.length (l.flatMap vcells)) (hrb : Sl w0 3 rb l.length (l.flatMap vcells)) (hA0 : w0.rangeAt ba (oa + k * 2) [ra]) (hB0 : w0.rangeAt bb (ob + k * 2) [rb]) (hA1 : w0.rangeAt ba (oa + k * 2 + 1) [.int .i64 c]) (hB1 : w0.rangeAt bb (ob + k * 2 + 1) [.int .i64 c]) : Ob Try.prog (c126ops ps0).toArray (c126L l c ba oa ca bb ob cb n k ra rb) 42 w0 (c126p8 ps0) := ob_fieldAddr rfl rfl trivial ⟨by decide, fun _ _ h => h⟩ (fun w => by go_simp) (fun _ => rfl)
theorem c126_o9 (ps0 : String) (l : List V) (c : Int) (ba oa ca bb ob cb n k : Nat) (ra rb : Value) (w0 : World) (hk : k < n) (hna : n ≤ ca) (hnb : n ≤ cb) (hma : ca ≤ 9223372036854775807) (hmb : cb ≤ 9223372036854775807) (hra : Sl w0 3 ra l.length (l.flatMap vcells)) (hrb : Sl w0 3 rb l.length (l.flatMap vcells)) (hA0 : w0.rangeAt ba (oa + k * 2) [ra]) (hB0 : w0.rangeAt bb (ob + k * 2) [rb]) (hA1 : w0.rangeAt ba (oa + k * 2 + 1) [.int .i64 c]) (hB1 : w0.rangeAt bb (ob + k * 2 + 1) [.int .i64 c]) : Ob Try.prog (c126ops ps0).toArray (c126L l c ba oa ca bb ob cb n k ra rb) 42 w0 (c126p9 ps0) := ob_load rfl rfl trivial ⟨by decide, fun _ _ h => h⟩ (tyRowV hrb) hB0 (fun _ _ => rfl)
theorem c126_o10 (ps0 : String) (l : List V) (c : Int) (ba oa ca bb ob cb n k : Nat) (ra rb : Value) (w0 : World) (hk : k < n) (hna : n ≤ ca) (hnb : n ≤ cb) (hma : ca ≤ 9223372036854775807) (hmb : cb ≤ 9223372036854775807) (hra : Sl w0 3 ra l.length (l.flatMap vcells)) (hrb : Sl w0 3 rb l.length (l.flatMap vcells)) (hA0 : w0.rangeAt ba (oa + k * 2) [ra]) (hB0 : w0.rangeAt bb (ob + k * 2) [rb]) (hA1 : w0.rangeAt ba (oa + k * 2 + 1) [.int .i64 c]) (hB1 : w0.rangeAt bb (ob + k * 2 + 1) [.int .i64 c]) : Ob Try.prog (c126ops ps0).toArray (c126L l c ba oa ca bb ob cb n k ra rb) 42 w0 (c126p10 ps0) := ob_call2 [ra, rb] rfl rfl trivial ⟨⟨by decide, fun _ _ h => h⟩, ⟨by decide, fun _ _ h => h⟩, trivial⟩ (fun w hw => (sameRow22_walk _ _ l l w (hra.kn hw) (hrb.kn hw)).mono fun e w1 ⟨he, hg⟩ => ⟨.bool true, by rw [he]; simp, hg, rfl⟩) (enter_of Try.func121 (by kernel_rfl) rfl)
theorem c126_o11 (ps0 : String) (l : List V) (c : Int) (ba oa ca bb ob cb n k : Nat) (ra rb : Value) (w0 : World) (hk : k < n) (hna : n ≤ ca) (hnb : n ≤ cb) (hma : ca ≤ 9223372036854775807) (hmb : cb ≤ 9223372036854775807) (hra : Sl w0 3 ra l.length (l.flatMap vcells)) (hrb : Sl w0 3 rb l.length (l.flatMap vcells)) (hA0 : w0.rangeAt ba (oa + k * 2) [ra]) (hB0 : w0.rangeAt bb (ob + k * 2) [rb]) (hA1 : w0.rangeAt ba (oa + k * 2 + 1) [.int .i64 c]) (hB1 : w0.rangeAt bb (ob + k * 2 + 1) [.int .i64 c]) : Ob Try.prog (c126ops ps0).toArray (c126L l c ba oa ca bb ob cb n k ra rb) 42 w0 (c126p11 ps0) := ob_not rfl rfl trivial ⟨by decide, fun _ _ h => h⟩ (fun _ => rfl)
theorem c126_o12 (ps0 : String) (l : List V) (c : Int) (ba oa ca bb ob cb n k : Nat) (ra rb : Value) (w0 : World) (hk : k < n) (hna : n ≤ ca) (hnb : n ≤ cb) (hma : ca ≤ 9223372036854775807) (hmb : cb ≤ 9223372036854775807) (hra : Sl w0 3 ra l.length (l.flatMap vcells)) (hrb : Sl w0 3 rb l.length (l.flatMap vcells)) (hA0 : w0.rangeAt ba (oa + k * 2) [ra]) (hB0 : w0.rangeAt bb (ob + k * 2) [rb]) (hA1 : w0.rangeAt ba (oa + k * 2 + 1) [.int .i64 c]) (hB1 : w0.rangeAt bb (ob + k * 2 + 1) [.int .i64 c]) : Ob Try.prog (c126ops ps0).toArray (c126L l c ba oa ca bb ob cb n k ra rb) 42 w0 (c126p12 ps0) := ob_move 28 29 rfl rfl (by decide) trivial (fun _ _ h => h)
theorem c126_o13 (ps0 : String) (l : List V) (c : Int) (ba oa ca bb ob cb n k : Nat) (ra rb : Value) (w0 : World) (hk : k < n) (hna : n ≤ ca) (hnb : n ≤ cb) (hma : ca ≤ 9223372036854775807) (hmb : cb ≤ 9223372036854775807) (hra : Sl w0 3 ra l.length (l.flatMap vcells)) (hrb : Sl w0 3 rb l.length (l.flatMap vcells)) (hA0 : w0.rangeAt ba (oa + k * 2) [ra]) (hB0 : w0.rangeAt bb (ob + k * 2) [rb]) (hA1 : w0.rangeAt ba (oa + k * 2 + 1) [.int .i64 c]) (hB1 : w0.rangeAt bb (ob + k * 2 + 1) [.int .i64 c]) : Ob Try.prog (c126ops ps0).toArray (c126L l c ba oa ca bb ob cb n k ra rb) 42 w0 (c126p13 ps0) := ob_move 0 30 rfl rfl (by decide) ⟨29, rfl, by decide, fun _ _ h => h⟩ (fun _ _ h => h)
theorem c126_o14 (ps0 : String) (l : List V) (c : Int) (ba oa ca bb ob cb n k : Nat) (ra rb : Value) (w0 : World) (hk : k < n) (hna : n ≤ ca) (hnb : n ≤ cb) (hma : ca ≤ 9223372036854775807) (hmb : cb ≤ 9223372036854775807) (hra : Sl w0 3 ra l.length (l.flatMap vcells)) (hrb : Sl w0 3 rb l.length (l.flatMap vcells)) (hA0 : w0.rangeAt ba (oa + k * 2) [ra]) (hB0 : w0.rangeAt bb (ob + k * 2) [rb]) (hA1 : w0.rangeAt ba (oa + k * 2 + 1) [.int .i64 c]) (hB1 : w0.rangeAt bb (ob + k * 2 + 1) [.int .i64 c]) : Ob Try.prog (c126ops ps0).toArray (c126L l c ba oa ca bb ob cb n k ra rb) 42 w0 (c126p14 ps0) := ob_move 5 31 rfl rfl (by decide) ⟨29, rfl, by decide, fun _ _ h => h⟩ (fun _ _ h => h)
theorem c126_o15 (ps0 : String) (l : List V) (c : Int) (ba oa ca bb ob cb n k : Nat) (ra rb : Value) (w0 : World) (hk : k < n) (hna : n ≤ ca) (hnb : n ≤ cb) (hma : ca ≤ 9223372036854775807) (hmb : cb ≤ 9223372036854775807) (hra : Sl w0 3 ra l.length (l.flatMap vcells)) (hrb : Sl w0 3 rb l.length (l.flatMap vcells)) (hA0 : w0.rangeAt ba (oa + k * 2) [ra]) (hB0 : w0.rangeAt bb (ob + k * 2) [rb]) (hA1 : w0.rangeAt ba (oa + k * 2 + 1) [.int .i64 c]) (hB1 : w0.rangeAt bb (ob + k * 2 + 1) [.int .i64 c]) : Ob Try.prog (c126ops ps0).toArray (c126L l c ba oa ca bb ob cb n k ra rb) 42 w0 (c126p15 ps0) := ob_index rfl rfl ⟨29, rfl, by decide, fun _ _ h => h⟩ ⟨by decide, fun _ _ h => h⟩ ⟨by decide, fun _ _ h => h⟩ (fun w => by go_simp) (fun _ => rfl)
theorem c126_o16 (ps0 : String) (l : List V) (c : Int) (ba oa ca bb ob cb n k : Nat) (ra rb : Value) (w0 : World) (hk : k < n) (hna : n ≤ ca) (hnb : n ≤ cb) (hma : ca ≤ 9223372036854775807) (hmb : cb ≤ 9223372036854775807) (hra : Sl w0 3 ra l.length (l.flatMap vcells)) (hrb : Sl w0 3 rb l.length (l.flatMap vcells)) (hA0 : w0.rangeAt ba (oa + k * 2) [ra]) (hB0 : w0.rangeAt bb (ob + k * 2) [rb]) (hA1 : w0.rangeAt ba (oa + k * 2 + 1) [.int .i64 c]) (hB1 : w0.rangeAt bb (ob + k * 2 + 1) [.int .i64 c]) : Ob Try.prog (c126ops ps0).toArray (c126L l c ba oa ca bb ob cb n k ra rb) 42 w0 (c126p16 ps0) := ob_fieldAddr rfl rfl ⟨29, rfl, by decide, fun _ _ h => h⟩ ⟨by decide, fun _ _ h => h⟩ (fun w => by go_simp) (fun _ => rfl)
theorem c126_o17 (ps0 : String) (l : List V) (c : Int) (ba oa ca bb ob cb n k : Nat) (ra rb : Value) (w0 : World) (hk : k < n) (hna : n ≤ ca) (hnb : n ≤ cb) (hma : ca ≤ 9223372036854775807) (hmb : cb ≤ 9223372036854775807) (hra : Sl w0 3 ra l.length (l.flatMap vcells)) (hrb : Sl w0 3 rb l.length (l.flatMap vcells)) (hA0 : w0.rangeAt ba (oa + k * 2) [ra]) (hB0 : w0.rangeAt bb (ob + k * 2) [rb]) (hA1 : w0.rangeAt ba (oa + k * 2 + 1) [.int .i64 c]) (hB1 : w0.rangeAt bb (ob + k * 2 + 1) [.int .i64 c]) : Ob Try.prog (c126ops ps0).toArray (c126L l c ba oa ca bb ob cb n k ra rb) 42 w0 (c126p17 ps0) := ob_load rfl rfl ⟨29, rfl, by decide, fun _ _ h => h⟩ ⟨by decide, fun _ _ h => h⟩ (ty64 c) hA1 (fun _ _ => rfl)
theorem c126_o18 (ps0 : String) (l : List V) (c : Int) (ba oa ca bb ob cb n k : Nat) (ra rb : Value) (w0 : World) (hk : k < n) (hna : n ≤ ca) (hnb : n ≤ cb) (hma : ca ≤ 9223372036854775807) (hmb : cb ≤ 9223372036854775807) (hra : Sl w0 3 ra l.length (l.flatMap vcells)) (hrb : Sl w0 3 rb l.length (l.flatMap vcells)) (hA0 : w0.rangeAt ba (oa + k * 2) [ra]) (hB0 : w0.rangeAt bb (ob + k * 2) [rb]) (hA1 : w0.rangeAt ba (oa + k * 2 + 1) [.int .i64 c]) (hB1 : w0.rangeAt bb (ob + k * 2 + 1) [.int .i64 c]) : Ob Try.prog (c126ops ps0).toArray (c126L l c ba oa ca bb ob cb n k ra rb) 42 w0 (c126p18 ps0) := ob_move 1 35 rfl rfl (by decide) ⟨29, rfl, by decide, fun _ _ h => h⟩ (fun _ _ h => h)
theorem c126_o19 (ps0 : String) (l : List V) (c : Int) (ba oa ca bb ob cb n k : Nat) (ra rb : Value) (w0 : World) (hk : k < n) (hna : n ≤ ca) (hnb : n ≤ cb) (hma : ca ≤ 9223372036854775807) (hmb : cb ≤ 9223372036854775807) (hra : Sl w0 3 ra l.length (l.flatMap vcells)) (hrb : Sl w0 3 rb l.length (l.flatMap vcells)) (hA0 : w0.rangeAt ba (oa + k * 2) [ra]) (hB0 : w0.rangeAt bb (ob + k * 2) [rb]) (hA1 : w0.rangeAt ba (oa + k * 2 + 1) [.int .i64 c]) (hB1 : w0.rangeAt bb (ob + k * 2 + 1) [.int .i64 c]) : Ob Try.prog (c126ops ps0).toArray (c126L l c ba oa ca bb ob cb n k ra rb) 42 w0 (c126p19 ps0) := ob_move 5 36 rfl rfl (by decide) ⟨29, rfl, by decide, fun _ _ h => h⟩ (fun _ _ h => h)
theorem c126_o20 (ps0 : String) (l : List V) (c : Int) (ba oa ca bb ob cb n k : Nat) (ra rb : Value) (w0 : World) (hk : k < n) (hna : n ≤ ca) (hnb : n ≤ cb) (hma : ca ≤ 9223372036854775807) (hmb : cb ≤ 9223372036854775807) (hra : Sl w0 3 ra l.length (l.flatMap vcells)) (hrb : Sl w0 3 rb l.length (l.flatMap vcells)) (hA0 : w0.rangeAt ba (oa + k * 2) [ra]) (hB0 : w0.rangeAt bb (ob + k * 2) [rb]) (hA1 : w0.rangeAt ba (oa + k * 2 + 1) [.int .i64 c]) (hB1 : w0.rangeAt bb (ob + k * 2 + 1) [.int .i64 c]) : Ob Try.prog (c126ops ps0).toArray (c126L l c ba oa ca bb ob cb n k ra rb) 42 w0 (c126p20 ps0) := ob_index rfl rfl ⟨29, rfl, by decide, fun _ _ h => h⟩ ⟨by decide, fun _ _ h => h⟩ ⟨by decide, fun _ _ h => h⟩ (fun w => by go_simp) (fun _ => rfl)
theorem c126_o21 (ps0 : String) (l : List V) (c : Int) (ba oa ca bb ob cb n k : Nat) (ra rb : Value) (w0 : World) (hk : k < n) (hna : n ≤ ca) (hnb : n ≤ cb) (hma : ca ≤ 9223372036854775807) (hmb : cb ≤ 9223372036854775807) (hra : Sl w0 3 ra l.length (l.flatMap vcells)) (hrb : Sl w0 3 rb l.length (l.flatMap vcells)) (hA0 : w0.rangeAt ba (oa + k * 2) [ra]) (hB0 : w0.rangeAt bb (ob + k * 2) [rb]) (hA1 : w0.rangeAt ba (oa + k * 2 + 1) [.int .i64 c]) (hB1 : w0.rangeAt bb (ob + k * 2 + 1) [.int .i64 c]) : Ob Try.prog (c126ops ps0).toArray (c126L l c ba oa ca bb ob cb n k ra rb) 42 w0 (c126p21 ps0) := ob_fieldAddr rfl rfl ⟨29, rfl, by decide, fun _ _ h => h⟩ ⟨by decide, fun _ _ h => h⟩ (fun w => by go_simp) (fun _ => rfl)
theorem c126_o22 (ps0 : String) (l : List V) (c : Int) (ba oa ca bb ob cb n k : Nat) (ra rb : Value) (w0 : World) (hk : k < n) (hna : n ≤ ca) (hnb : n ≤ cb) (hma : ca ≤ 9223372036854775807) (hmb : cb ≤ 9223372036854775807) (hra : Sl w0 3 ra l.length (l.flatMap vcells)) (hrb : Sl w0 3 rb l.length (l.flatMap vcells)) (hA0 : w0.rangeAt ba (oa + k * 2) [ra]) (hB0 : w0.rangeAt bb (ob + k * 2) [rb]) (hA1 : w0.rangeAt ba (oa + k * 2 + 1) [.int .i64 c]) (hB1 : w0.rangeAt bb (ob + k * 2 + 1) [.int .i64 c]) : Ob Try.prog (c126ops ps0).toArray (c126L l c ba oa ca bb ob cb n k ra rb) 42 w0 (c126p22 ps0) := ob_load rfl rfl ⟨29, rfl, by decide, fun _ _ h => h⟩ ⟨by decide, fun _ _ h => h⟩ (ty64 c) hB1 (fun _ _ => rfl)
theorem c126_o23 (ps0 : String) (l : List V) (c : Int) (ba oa ca bb ob cb n k : Nat) (ra rb : Value) (w0 : World) (hk : k < n) (hna : n ≤ ca) (hnb : n ≤ cb) (hma : ca ≤ 9223372036854775807) (hmb : cb ≤ 9223372036854775807) (hra : Sl w0 3 ra l.length (l.flatMap vcells)) (hrb : Sl w0 3 rb l.length (l.flatMap vcells)) (hA0 : w0.rangeAt ba (oa + k * 2) [ra]) (hB0 : w0.rangeAt bb (ob + k * 2) [rb]) (hA1 : w0.rangeAt ba (oa + k * 2 + 1) [.int .i64 c]) (hB1 : w0.rangeAt bb (ob + k * 2 + 1) [.int .i64 c]) : Ob Try.prog (c126ops ps0).toArray (c126L l c ba oa ca bb ob cb n k ra rb) 42 w0 (c126p23 ps0) := ob_neI rfl rfl ⟨29, rfl, by decide, fun _ _ h => h⟩ ⟨by decide, fun _ _ h => h⟩ ⟨by decide, fun _ _ h => h⟩ rfl (fun _ => rfl)
theorem c126_o24 (ps0 : String) (l : List V) (c : Int) (ba oa ca bb ob cb n k : Nat) (ra rb : Value) (w0 : World) (hk : k < n) (hna : n ≤ ca) (hnb : n ≤ cb) (hma : ca ≤ 9223372036854775807) (hmb : cb ≤ 9223372036854775807) (hra : Sl w0 3 ra l.length (l.flatMap vcells)) (hrb : Sl w0 3 rb l.length (l.flatMap vcells)) (hA0 : w0.rangeAt ba (oa + k * 2) [ra]) (hB0 : w0.rangeAt bb (ob + k * 2) [rb]) (hA1 : w0.rangeAt ba (oa + k * 2 + 1) [.int .i64 c]) (hB1 : w0.rangeAt bb (ob + k * 2 + 1) [.int .i64 c]) : Ob Try.prog (c126ops ps0).toArray (c126L l c ba oa ca bb ob cb n k ra rb) 42 w0 (c126p24 ps0) := ob_pickF rfl rfl trivial ⟨by decide, fun _ _ h => h⟩ ⟨by decide, fun _ _ h => h⟩ (fun _ => rfl)
theorem c126_ob (ps0 : String) (l : List V) (c : Int) (ba oa ca bb ob cb n k : Nat) (ra rb : Value) (w0 : World) (hk : k < n) (hna : n ≤ ca) (hnb : n ≤ cb) (hma : ca ≤ 9223372036854775807) (hmb : cb ≤ 9223372036854775807) (hra : Sl w0 3 ra l.length (l.flatMap vcells)) (hrb : Sl w0 3 rb l.length (l.flatMap vcells)) (hA0 : w0.rangeAt ba (oa + k * 2) [ra]) (hB0 : w0.rangeAt bb (ob + k * 2) [rb]) (hA1 : w0.rangeAt ba (oa + k * 2 + 1) [.int .i64 c]) (hB1 : w0.rangeAt bb (ob + k * 2 + 1) [.int .i64 c]) : ObAll Try.prog (c126ops ps0).toArray (c126L l c ba oa ca bb ob cb n k ra rb) 42 w0 (c126ops ps0) := ⟨c126_o0 ps0 l c ba oa ca bb ob cb n k ra rb w0 hk hna hnb hma hmb hra hrb hA0 hB0 hA1 hB1, c126_o1 ps0 l c ba oa ca bb ob cb n k ra rb w0 hk hna hnb hma hmb hra hrb hA0 hB0 hA1 hB1, c126_o2 ps0 l c ba oa ca bb ob cb n k ra rb w0 hk hna hnb hma hmb hra hrb hA0 hB0 hA1 hB1, c126_o3 ps0 l c ba oa ca bb ob cb n k ra rb w0 hk hna hnb hma hmb hra hrb hA0 hB0 hA1 hB1, c126_o4 ps0 l c ba oa ca bb ob cb n k ra rb w0 hk hna hnb hma hmb hra hrb hA0 hB0 hA1 hB1, c126_o5 ps0 l c ba oa ca bb ob cb n k ra rb w0 hk hna hnb hma hmb hra hrb hA0 hB0 hA1 hB1, c126_o6 ps0 l c ba oa ca bb ob cb n k ra rb w0 hk hna hnb hma hmb hra hrb hA0 hB0 hA1 hB1, c126_o7 ps0 l c ba oa ca bb ob cb n k ra rb w0 hk hna hnb hma hmb hra hrb hA0 hB0 hA1 hB1, c126_o8 ps0 l c ba oa ca bb ob cb n k ra rb w0 hk hna hnb hma hmb hra hrb hA0 hB0 hA1 hB1, c126_o9 ps0 l c ba oa ca bb ob cb n k ra rb w0 hk hna hnb hma hmb hra hrb hA0 hB0 hA1 hB1, c126_o10 ps0 l c ba oa ca bb ob cb n k ra rb w0 hk hna hnb hma hmb hra hrb hA0 hB0 hA1 hB1, c126_o11 ps0 l c ba oa ca bb ob cb n k ra rb w0 hk hna hnb hma hmb hra hrb hA0 hB0 hA1 hB1, c126_o12 ps0 l c ba oa ca bb ob cb n k ra rb w0 hk hna hnb hma hmb hra hrb hA0 hB0 hA1 hB1, c126_o13 ps0 l c ba oa ca bb ob cb n k ra rb w0 hk hna hnb hma hmb hra hrb hA0 hB0 hA1 hB1, c126_o14 ps0 l c ba oa ca bb ob cb n k ra rb w0 hk hna hnb hma hmb hra hrb hA0 hB0 hA1 hB1, c126_o15 ps0 l c ba oa ca bb ob cb n k ra rb w0 hk hna hnb hma hmb hra hrb hA0 hB0 hA1 hB1, c126_o16 ps0 l c ba oa ca bb ob cb n k ra rb w0 hk hna hnb hma hmb hra hrb hA0 hB0 hA1 hB1, c126_o17 ps0 l c ba oa ca bb ob cb n k ra rb w0 hk hna hnb hma hmb hra hrb hA0 hB0 hA1 hB1, c126_o18 ps0 l c ba oa ca bb ob cb n k ra rb w0 hk hna hnb hma hmb hra hrb hA0 hB0 hA1 hB1, c126_o19 ps0 l c ba oa ca bb ob cb n k ra rb w0 hk hna hnb hma hmb hra hrb hA0 hB0 hA1 hB1, c126_o20 ps0 l c ba oa ca bb ob cb n k ra rb w0 hk hna hnb hma hmb hra hrb hA0 hB0 hA1 hB1, c126_o21 ps0 l c ba oa ca bb ob cb n k ra rb w0 hk hna hnb hma hmb hra hrb hA0 hB0 hA1 hB1, c126_o22 ps0 l c ba oa ca bb ob cb n k ra rb w0 hk hna hnb hma hmb hra hrb hA0 hB0 hA1 hB1, c126_o23 ps0 l c ba oa ca bb ob cb n k ra rb w0 hk hna hnb hma hmb hra hrb hA0 hB0 hA1 hB1, c126_o24 ps0 l c ba oa ca bb ob cb n k ra rb w0 hk hna hnb hma hmb hra hrb hA0 hB0 hA1 hB1, trivial⟩
def RBag (w : World) (s : Value) (ps : List (Value × En)) : Prop := Sl w 2 s ps.length (ps.flatMap ecells) ∧ ∀ p ∈ ps, Sl w 3 p.1 p.2.row.length (p.2.row.flatMap vcells)
theorem RBag.kn {w w' : World} {s : Value} {ps : List (Value × En)} (h : RBag w s ps) (g : w.grownBy w' none) : RBag w' s ps := ⟨h.1.kn g, fun p hp => (h.2 p hp).kn g⟩
theorem range_cells {w : World} {b o : Nat} {v : Value} (h : w.cell? ⟨b, o, none⟩ = some v) : w.rangeAt b o [v] := fun j u hj => by
 cases j with
 | zero => simp at hj; subst hj; exact h
 | succ j => simp at hj
theorem sameBag22_walk (a b : Value) (ps qs : List (Value × En)) (w : World) (ha : RBag w a ps) (hb : RBag w b qs) (hpq : ps.map (·.2) = qs.map (·.2)) :
   Calls Try.prog 126 #[a, b] w fun e w' => e = .returned (.bool true) ∧ w.grownBy w' none := by
 obtain ⟨ao, cap, rfl, hnc, hcm⟩ := ha.1.shape
 obtain ⟨bo, bcap, rfl, hnc2, hcm2⟩ := hb.1.shape
 have hlen : qs.length = ps.length := by have := congrArg List.length hpq; simpa using this.symm
 have HA := hid ha
 have hb' := hb
 have HB : Hid (RBag w (.slice bo ps.length bcap) qs) := by rw [hlen] at hb'; exact hid hb'
 have HPQ := hid hpq
 have HLEN := hid hlen
 have hnc2' : ps.length ≤ bcap := by omega
 clear ha hb hb' hpq hnc2
 rw [HLEN.out]
 clear hlen
 go_enter Try.func126, Try.ntmps126
 go_wp2
 go_loopw [5] (fun i wr => ∃ k : Nat, k ≤ ps.length ∧ i = .int .i64 k ∧ w.grownBy wr none) (fun i _ => ps.length - (intOf i).toNat)
 case atStart => exact ⟨0, Nat.zero_le _, rfl, World.grownBy.refl _ _⟩
 case round =>
   obtain ⟨k, hk, rfl, hg⟩ := hrel
   by_cases hlt : k < ps.length
   · have hm : k < qs.length := by have := HLEN.out; omega
     obtain ⟨blk, off, rfl, hc⟩ := (HA.out.kn hg).1.elem (fun x _ => rfl) (by decide) k hlt
     have hq1 := (HB.out.kn hg).1
     have hq1' : Sl wr 2 (.slice bo ps.length bcap) qs.length (qs.flatMap ecells) := hq1
     obtain ⟨blk2, off2, rfl, hc2⟩ := hq1'.elem (fun x _ => rfl) (by decide) k hm
     have h0 : wr.cell? ⟨blk, off + k * 2, none⟩ = some ps[k].1 := hc 0 _ rfl
     have h1 : wr.cell? ⟨blk, off + k * 2 + 1, none⟩ = some (.int .i64 ps[k].2.count) := hc 1 _ rfl
     have g0 : wr.cell? ⟨blk2, off2 + k * 2, none⟩ = some qs[k].1 := hc2 0 _ rfl
     have g1 : wr.cell? ⟨blk2, off2 + k * 2 + 1, none⟩ = some (.int .i64 qs[k].2.count) := hc2 1 _ rfl
     have hra := (HA.out.kn hg).2 _ (List.getElem_mem hlt)
     have hrb := (HB.out.kn hg).2 _ (List.getElem_mem hm)
     have heq : ps[k].2 = qs[k].2 := by
       have h9 : (ps.map (·.2))[k]'(by simpa using hlt) = (qs.map (·.2))[k]'(by simpa using hm) := by simp only [HPQ.out]
       simpa using h9
     rw [← heq] at hrb g1
     have HG := hid hg
     generalize ps[k] = p at *
     generalize qs[k] = q at *
     obtain ⟨rp, x⟩ := p
     obtain ⟨rq, y⟩ := q
     simp only at *
     clear hc hc2 hq1 hq1' hg heq
     go_wp2_with fail
     refine region_listF mixed (c126L x.row x.count blk off cap blk2 off2 bcap ps.length k rp rq) _ (c126_reg _) (c126_m _) ?_ ?_ (c126_ob _ x.row x.count blk off cap blk2 off2 bcap ps.length k rp rq _ hlt hnc hnc2' hcm hcm2 hra hrb (range_cells h0) (range_cells g0) (range_cells h1) (range_cells g1)) ?_
     · rfl
     · exact ⟨.inr rfl, .inr rfl, .inr trivial, .inr trivial, .inr trivial, .inr rfl, .inr trivial, .inr trivial, .inr trivial, .inr trivial, .inr trivial, .inr trivial, .inr trivial, .inr trivial, .inr trivial, .inr trivial, .inr trivial, .inl rfl, .inl rfl, .inl rfl, .inl rfl, .inl rfl, .inl rfl, .inl rfl, .inl rfl, .inl rfl, .inl rfl, .inl rfl, .inl rfl, .inl rfl, .inl rfl, .inl rfl, .inl rfl, .inl rfl, .inl rfl, .inl rfl, .inl rfl, .inl rfl, .inl rfl, .inl rfl, .inl rfl, .inl rfl, trivial⟩
     intro x8 w8 hg8 hk8
     simp only [frameOf, Bool.false_eq_true, if_false, if_true]
     have h41 : x8 41 = .bool false := hk8 41 (by show 41 < 42; decide)
     rw [h41]
     have G8 := hid (grown_trans HG.out hg8)
     clear h41 hk8 hg8 h0 h1 g0 g1 hra hrb
     go_wp2
     go_roundw
     case rel => exact ⟨k + 1, by omega, by go_num, G8.out⟩
     case measure => simp [intOf]; omega
   · obtain rfl : k = ps.length := by omega
     have HG := hid hg
     clear hg
     go_wp2
     go_ret
     exact ⟨rfl, HG.out⟩
theorem sameBag_walk (a b : Value) (ps qs : List (Value × En)) (w : World) (ha : RBag w a ps) (hb : RBag w b qs) (hpq : ps.map (·.2) = qs.map (·.2)) :
   Calls Try.prog 50 #[a, b] w fun e w' => e = .returned (.bool true) ∧ w.grownBy w' none := by
 obtain ⟨ao, cap, rfl, hnc, hcm⟩ := ha.1.shape
 obtain ⟨bo, bcap, rfl, hnc2, hcm2⟩ := hb.1.shape
 have HA := hid ha
 have HB := hid hb
 have HP := hid hpq
 clear ha hb hpq
 go_enter Try.func50, Try.ntmps50
 go_wp2_with fail
 refine (sameBag22_walk _ _ ps qs w HA.out HB.out HP.out).mono ?_
 rintro e w1 ⟨rfl, hg⟩
 go_wp2
 go_ret
 exact ⟨rfl, hg⟩
end Go.Proofs.Ytkeiffccllfkpaa
/- The program's appender of changes. -/
namespace Go.Proofs.Ytkeiffccllfkpaa
open Go.RowKit
set_option linter.unusedSimpArgs false
set_option linter.unusedVariables false
set_option linter.unusedVariables false
end Go.Proofs.Ytkeiffccllfkpaa
/- The exported appenders of structs and bags. -/
namespace Go.Proofs.Ytkeiffccllfkpaa
open Go.RowKit
set_option linter.unusedSimpArgs false
end Go.Proofs.Ytkeiffccllfkpaa
/- Ledger entries: their cells; the reference's Bytes and Entry. -/
namespace Go.Proofs.Ytkeiffccllfkpaa
open Go.RowKit
set_option linter.unusedSimpArgs false
def lecells (e : LE) (v s : Value) : List Value := [.int .i64 e.kind, .int .i64 e.day, .int .i64 e.plan, .int .i64 e.step] ++ (reqcells e.req ++ (lnkcells e.lnk ++ (hldcells e.hld ++ ([v, s] ++ bv e.root))))
def leval (e : LE) (v s : Value) : Value := .agg (lecells e v s).toArray
theorem lecells_len (e : LE) (v s : Value) (h : e.root.length = 32) : (lecells e v s).length = 65 := by
 simp [lecells, reqcells, lnkcells, hldcells, idfcells, bv_length, h]
theorem mid_at {a b c : List Value} {n m : Nat} (h : a.length = n) (hb : b.length = m) : ((a ++ (b ++ c)).drop n).take m = b := by
 subst h hb
 rw [List.drop_left', List.take_left'] <;> rfl
theorem le_req (e : LE) (v s : Value) : ((lecells e v s).drop 4).take (reqcells e.req).length = reqcells e.req := mid_at rfl rfl
theorem le_lnk (e : LE) (v s : Value) : ((lecells e v s).drop 12).take (lnkcells e.lnk).length = lnkcells e.lnk := by
 unfold lecells
 rw [← List.append_assoc]
 exact mid_at rfl rfl
theorem le_hld (e : LE) (v s : Value) : ((lecells e v s).drop 22).take (hldcells e.hld).length = hldcells e.hld := by
 unfold lecells
 rw [← List.append_assoc, ← List.append_assoc]
 exact mid_at rfl rfl
theorem le_vs (e : LE) (v s : Value) : ((lecells e v s).drop 31).take [v].length = [v] := by
 unfold lecells
 rw [← List.append_assoc, ← List.append_assoc, ← List.append_assoc]
 exact mid_at (b := [v]) (c := s :: bv e.root) rfl rfl
theorem le_ss (e : LE) (v s : Value) : ((lecells e v s).drop 32).take [s].length = [s] := by
 unfold lecells
 rw [← List.append_assoc, ← List.append_assoc, ← List.append_assoc]
 have : ([.int .i64 e.kind, .int .i64 e.day, .int .i64 e.plan, .int .i64 e.step] ++ reqcells e.req ++ lnkcells e.lnk ++ hldcells e.hld ++ ([v, s] ++ bv e.root)) = (([.int .i64 e.kind, .int .i64 e.day, .int .i64 e.plan, .int .i64 e.step] ++ reqcells e.req ++ lnkcells e.lnk ++ hldcells e.hld ++ [v]) ++ ([s] ++ bv e.root)) := by simp
 rw [this]
 exact mid_at rfl rfl
theorem le_root (e : LE) (v s : Value) : ((lecells e v s).drop 33).take (bv e.root).length = bv e.root := by
 unfold lecells
 rw [← List.append_assoc, ← List.append_assoc, ← List.append_assoc, ← List.append_assoc]
 have := mid_at (a := [.int .i64 e.kind, .int .i64 e.day, .int .i64 e.plan, .int .i64 e.step] ++ reqcells e.req ++ lnkcells e.lnk ++ hldcells e.hld ++ [v, s]) (b := bv e.root) (c := []) (n := 33) rfl rfl
 simpa using this
theorem tyVersS {w : World} {v : Value} {n m : Nat} {xs : List Value} (h : Sl w n v m xs) : TY Try.prog 42 [v] v := by
 obtain ⟨ao, cap, rfl, _⟩ := h.shape
 exact TY.one' Try.underlying42 rfl (by kernel_rfl) rfl
theorem tySrcsS {w : World} {v : Value} {n m : Nat} {xs : List Value} (h : Sl w n v m xs) : TY Try.prog 43 [v] v := by
 obtain ⟨ao, cap, rfl, _⟩ := h.shape
 exact TY.one' Try.underlying43 rfl (by kernel_rfl) rfl
set_option linter.unusedVariables false
end Go.Proofs.Ytkeiffccllfkpaa
/- The reader's ledger entry. -/
namespace Go.Proofs.Ytkeiffccllfkpaa
open Go.RowKit
set_option linter.unusedSimpArgs false
theorem FR.write {T : TypeId} {L : Nat} {w W : World} {R B : Nat} {s : St} {TT : TypeId} {Z C : List Value} (h : FR T L w W R B s TT Z C) {W' : World} {C' C'' : List Value} (g : W.grownBy W' (some B)) (hb : W'.heap[B]? = some (.cells C'.toArray TT (0, 0))) (e : C' = C'') : FR T L w W' R B s TT Z C'' := by
 subst e
 exact ⟨h.lt, h.hB, grown_R h.hg g (Nat.le_of_lt h.hB), h.st.past g (by have := h.lt; have := h.hB; omega), row_of g h.b0 (by have := h.hB; simp; omega), hb⟩
theorem FR.fing {T : TypeId} {L : Nat} {w W : World} {R B : Nat} {s : St} {TT : TypeId} {Z C : List Value} (h : FR T L w W R B s TT Z C) {W' : World} (g : W.grownBy W' (some w.heap.size)) : w.grownBy W' (some R) ∧ RSt T L W' R s :=
 ⟨grown_R h.hg g (Nat.le_refl _), h.st.past g h.lt⟩
theorem FR.c {T : TypeId} {L : Nat} {w W : World} {R B : Nat} {s : St} {TT : TypeId} {Z C : List Value} (h : FR T L w W R B s TT Z C) (k : Nat) {v : Value} (e : C[k]? = some v) : W.cell? ⟨B, k, none⟩ = some v := by
 rw [cell_of_row _ _ _ _ _ _ h.b1]
 simpa using e
theorem tyLE {e : LE} {v s : Value} (hv : v.oneCell' = true) (hs : s.oneCell' = true) (hr : e.root.length = 32) : TY Try.prog 111 (lecells e v s) (leval e v s) :=
 TY.agg Try.underlying111 rfl (by rw [lecells_len e v s hr]; kernel_rfl) (by
   simp only [lecells, reqcells, lnkcells, hldcells, idfcells, List.forall_mem_append, List.forall_mem_cons]
   repeat' apply And.intro
   all_goals first | rfl | exact hv | exact hs | exact fun c hc => bv_one hc | (intro c hc; cases hc))
def repLE (L : Nat) (w : World) (v : Value) (x : LE) : Prop := ∃ vs ss, v = leval x vs ss ∧ repVers L w vs x.vers ∧ repSrcs L w ss x.srcs ∧ x.root.length = 32 ∧ ∀ b ∈ x.root, b < 256
theorem repVers_nil (L : Nat) (w : World) : repVers L w nilS [] := ⟨Sl.nil _ _, fun k hk => by simp [nilS, Value.ownBlock] at hk, by simp⟩
theorem repSrcs_nil (L : Nat) (w : World) : repSrcs L w nilS [] := ⟨Sl.nil _ _, fun k hk => by simp [nilS, Value.ownBlock] at hk, by simp⟩
theorem z32_ok : z32.length = 32 ∧ ∀ b ∈ z32, b < 256 := ⟨by simp [z32], fun b hb => by have := List.eq_of_mem_replicate hb; omega⟩
theorem repLE_mono (L : Nat) (w w' : World) (v : Value) (x : LE) (h : repLE L w v x) (hs : w.heap.size ≤ w'.heap.size) (hk : ∀ k, L ≤ k → k < w.heap.size → w'.heap[k]? = w.heap[k]?) (L' : Nat) (hL : L' ≤ L) : repLE L' w' v x := by
 obtain ⟨vs, ss, h1, h2, h3, h4⟩ := h
 exact ⟨vs, ss, h1, repVers_mono L w w' _ _ h2 hs hk L' hL, repSrcs_mono L w w' _ _ h3 hs hk L' hL, h4⟩
theorem slice_one {w : World} {sz : Nat} {v : Value} {n : Nat} {xs : List Value} (h : Sl w sz v n xs) : v.oneCell' = true := by
 obtain ⟨ao, cap, rfl, _⟩ := h.shape
 rfl
theorem le_len0 (k d p s : Int) (a b : Value) : (lecells (LE.base k d p s) a b).length = 65 := lecells_len _ _ _ (by simp [LE.base, z32])
theorem repVers.past {L : Nat} {w w' : World} {B : Nat} {v : Value} {l : List Ver} (h : repVers L w v l) (g : w.grownBy w' (some B)) (hB : B < L) : repVers L w' v l := repVers_mono L w w' v l h g.size (fun k h1 h2 => g.block k h2 (by simp; omega)) L (Nat.le_refl _)
theorem repSrcs.past {L : Nat} {w w' : World} {B : Nat} {v : Value} {l : List Src} (h : repSrcs L w v l) (g : w.grownBy w' (some B)) (hB : B < L) : repSrcs L w' v l := repSrcs_mono L w w' v l h g.size (fun k h1 h2 => g.block k h2 (by simp; omega)) L (Nat.le_refl _)
theorem repVers.down {L L' : Nat} {w : World} {v : Value} {l : List Ver} (h : repVers L w v l) (hL : L' ≤ L) : repVers L' w v l := ⟨h.1, fun k hk => ⟨Nat.le_trans hL (h.2 k hk).1, (h.2 k hk).2⟩, h.3⟩
theorem repSrcs.down {L L' : Nat} {w : World} {v : Value} {l : List Src} (h : repSrcs L w v l) (hL : L' ≤ L) : repSrcs L' w v l := ⟨h.1, fun k hk => ⟨Nat.le_trans hL (h.2 k hk).1, (h.2 k hk).2⟩, h.3⟩
theorem le_setroot (e : LE) (v s : Value) (x : List Nat) (h : x.length = 32) : (lecells (LE.base e.kind e.day e.plan e.step) v s).take 33 ++ (bv x ++ (lecells (LE.base e.kind e.day e.plan e.step) v s).drop (33 + (bv x).length)) = lecells { LE.base e.kind e.day e.plan e.step with root := x } v s := by
 rw [bv_length, h]
 have : (lecells (LE.base e.kind e.day e.plan e.step) v s).drop (33 + 32) = [] := rfl
 rw [this, List.append_nil]
 rfl
theorem ledgerEntry_walk {L : Nat} (R : Nat) (s : St) (w : World) (h : RSt 201 L w R s) :
   Calls Try.prog 138 #[.pointer (some ⟨R, 0, none⟩)] w (RdPost 201 L w R pLE s (repLE w.heap.size)) := by
 have hR := h.lt
 have F0 := hid (FR.start 111 (lecells (LE.base 0 0 0 0) nilS nilS) h)
 clear h
 go_enter Try.func138, Try.ntmps138
 go_wp2_with fail
 refine (intIn_walk R s 1 7 _ F0.out.st).mono ?_
 rintro e w1 ⟨v1, x1, s1, rfl, ⟨rfl, hn⟩, hg, hst, hrel⟩
 have R1 := hid hrel
 have G1 := hid (F0.out.call hg hst)
 clear hn hg hst hrel
 go_wp2_with (first | (refine wpList_storeAt rfl 3 (.tmp 6) (.tmp 5) rfl rfl rfl (ty3 x1) G1.out.b1 (by rw [le_len0]; exact Nat.le_of_ble_eq_true rfl) ?_; intro W1 g1 hb1) | fail)
 have F1 := hid (G1.out.write g1 hb1 (C'' := lecells (LE.base x1 0 0 0) nilS nilS) rfl)
 clear g1 hb1
 refine (int_walk R s1 _ F1.out.st).mono ?_
 rintro e w2 ⟨v2, x2, s2, rfl, ⟨rfl, hn⟩, hg, hst, hrel⟩
 have R2 := hid hrel
 have G2 := hid (F1.out.call hg hst)
 clear hn hg hst hrel
 go_wp2_with (first | (refine wpList_storeAt rfl 3 (.tmp 9) (.tmp 8) rfl rfl rfl (ty3 x2) G2.out.b1 (by rw [le_len0]; exact Nat.le_of_ble_eq_true rfl) ?_; intro W2 g2 hb2) | fail)
 have F2 := hid (G2.out.write g2 hb2 (C'' := lecells (LE.base x1 x2 0 0) nilS nilS) rfl)
 clear g2 hb2
 refine (int_walk R s2 _ F2.out.st).mono ?_
 rintro e w3 ⟨v3, x3, s3, rfl, ⟨rfl, hn⟩, hg, hst, hrel⟩
 have R3 := hid hrel
 have G3 := hid (F2.out.call hg hst)
 clear hn hg hst hrel
 go_wp2_with (first | (refine wpList_storeAt rfl 3 (.tmp 12) (.tmp 11) rfl rfl rfl (ty3 x3) G3.out.b1 (by rw [le_len0]; exact Nat.le_of_ble_eq_true rfl) ?_; intro W3 g3 hb3) | fail)
 have F3 := hid (G3.out.write g3 hb3 (C'' := lecells (LE.base x1 x2 x3 0) nilS nilS) rfl)
 clear g3 hb3
 refine (int_walk R s3 _ F3.out.st).mono ?_
 rintro e w4 ⟨v4, x4, s4, rfl, ⟨rfl, hn⟩, hg, hst, hrel⟩
 have R4 := hid hrel
 have G4 := hid (F3.out.call hg hst)
 clear hn hg hst hrel
 by_cases h1 : x1 = 1
 · have H1 := hid h1
   clear h1
   have b1 : (x1 == 1) = true := by rw [H1.out]; rfl
   go_wp2_with (first | (refine wpList_storeAt rfl 3 (.tmp 15) (.tmp 14) rfl rfl rfl (ty3 x4) G4.out.b1 (by rw [le_len0]; exact Nat.le_of_ble_eq_true rfl) ?_; intro W4 g4 hb4; have F4 := hid (G4.out.write g4 hb4 (C'' := lecells (LE.base x1 x2 x3 x4) nilS nilS) rfl); have c0 := F4.out.c 0 (v := .int .i64 x1) rfl; clear g4 hb4) | fail)
   refine (request_walk R s4 _ F4.out.st).mono ?_
   rintro e w5 ⟨v5, x5, s5, rfl, rfl, hg, hst, hrel⟩
   have R5 := hid hrel
   have G5 := hid (F4.out.call hg hst)
   clear hg hst hrel c0
   obtain ⟨X, hX⟩ : ∃ X : LE, X = { LE.base x1 x2 x3 x4 with req := x5 } := ⟨_, rfl⟩
   have hroot : X.root.length = 32 ∧ ∀ b ∈ X.root, b < 256 := hX ▸ z32_ok
   obtain ⟨V, hV⟩ : ∃ V : Value, V = leval X nilS nilS := ⟨_, rfl⟩
   have HT := hid (show TY Try.prog 111 (lecells X nilS nilS) V from hV ▸ tyLE rfl rfl hroot.1)
   have T5 := hid (tyReq x5)
   have HV := hid hV
   have HX := hid hX
   have HR := hid hroot
   clear hV hX hroot
   generalize valReq x5 = u5 at *
   go_wp2_with (first | (refine wpList_storeAt rfl 105 (.tmp 22) (.tmp 21) rfl rfl rfl T5.out G5.out.b1 (by rw [le_len0]; exact Nat.le_of_ble_eq_true rfl) ?_; intro W5 g5 hb5; have F5 := hid (G5.out.write g5 hb5 (C'' := lecells X nilS nilS) (by rw [HX.out]; rfl))) | (refine wpList_loadTY rfl 111 (.tmp 3) rfl rfl HT.out F5.out.b1 ?_) | (refine wpList_storeTYg rfl 111 (.tmp 2) (.tmp 46) rfl rfl rfl HT.out F5.out.b0 (by rw [lecells_len _ _ _ HR.out.1]; rfl) ?_; intro W9 g9 hb9) | fail)
   exact ret_cell rfl rfl HT.out hb9 rfl ⟨_, X, s5, rfl, ⟨nilS, nilS, HV.out, (HX.out ▸ repVers_nil _ _), (HX.out ▸ repSrcs_nil _ _), HR.out⟩, (F5.out.fing g9).1, (F5.out.fing g9).2, R1.out.bind (R2.out.bind (R3.out.bind (R4.out.bind (by unfold pLEt; rw [if_pos H1.out]; exact HX.out ▸ R5.out.bind (Rel.pure _ _)))))⟩
 have H1 := hid h1
 clear h1
 by_cases h2 : x1 = 2
 · have H2 := hid h2
   clear h2
   have b1 : (x1 == 1) = false := by simp; exact H1.out
   have b2 : (x1 == 2) = true := by rw [H2.out]; rfl
   go_wp2_with (first | (refine wpList_storeAt rfl 3 (.tmp 15) (.tmp 14) rfl rfl rfl (ty3 x4) G4.out.b1 (by rw [le_len0]; exact Nat.le_of_ble_eq_true rfl) ?_; intro W4 g4 hb4; have F4 := hid (G4.out.write g4 hb4 (C'' := lecells (LE.base x1 x2 x3 x4) nilS nilS) rfl); have c0 := F4.out.c 0 (v := .int .i64 x1) rfl; clear g4 hb4) | fail)
   refine (versions_walk R s4 _ F4.out.st).mono ?_
   rintro e w5 ⟨v5, x5, s5, rfl, hrep5, hg, hst, hrel⟩
   have R5 := hid hrel
   have P5 := hid (hrep5.down (L' := w.heap.size + 2) (by have := F4.out.size; omega))
   have hone5 := slice_one hrep5.1
   have T5 := hid (tyVersS hrep5.1)
   have G5 := hid (F4.out.call hg hst)
   have ON5 := hid hone5
   clear hg hst hrel c0 hrep5 hone5
   go_wp2_with (first | (refine wpList_storeAt rfl 42 (.tmp 27) (.tmp 26) rfl rfl rfl T5.out G5.out.b1 (by rw [le_len0]; exact Nat.le_of_ble_eq_true rfl) ?_; intro W5 g5 hb5) | fail)
   have F5 := hid (G5.out.write g5 hb5 (C'' := lecells { LE.base x1 x2 x3 x4 with vers := x5 } v5 nilS) rfl)
   have P5a := hid (P5.out.past g5 (by omega))
   clear g5 hb5
   refine (sources_walk R s5 _ F5.out.st).mono ?_
   rintro e w6 ⟨v6, x6, s6, rfl, hrep6, hg, hst, hrel⟩
   have R6 := hid hrel
   have P6 := hid (hrep6.down (L' := w.heap.size + 2) (by have := F5.out.size; omega))
   have P5b := hid (P5a.out.past hg (by omega))
   have T6 := hid (tySrcsS hrep6.1)
   have ON6 := hid (slice_one hrep6.1)
   have G6 := hid (F5.out.call hg hst)
   clear hg hst hrel hrep6
   obtain ⟨X, hX⟩ : ∃ X : LE, X = { LE.base x1 x2 x3 x4 with vers := x5, srcs := x6 } := ⟨_, rfl⟩
   have hroot : X.root.length = 32 ∧ ∀ b ∈ X.root, b < 256 := hX ▸ z32_ok
   obtain ⟨V, hV⟩ : ∃ V : Value, V = leval X v5 v6 := ⟨_, rfl⟩
   have HT := hid (show TY Try.prog 111 (lecells X v5 v6) V from hV ▸ tyLE ON5.out ON6.out hroot.1)
   have HV := hid hV
   have HX := hid hX
   have HR := hid hroot
   clear hV hX hroot
   go_wp2_with (first | (refine wpList_storeAt rfl 43 (.tmp 30) (.tmp 29) rfl rfl rfl T6.out G6.out.b1 (by rw [lecells_len _ _ _ z32_ok.1]; exact Nat.le_of_ble_eq_true rfl) ?_; intro W6 g6 hb6; have F6 := hid (G6.out.write g6 hb6 (C'' := lecells X v5 v6) (by rw [HX.out]; rfl))) | (refine wpList_loadTY rfl 111 (.tmp 3) rfl rfl HT.out F6.out.b1 ?_) | (refine wpList_storeTYg rfl 111 (.tmp 2) (.tmp 46) rfl rfl rfl HT.out F6.out.b0 (by rw [lecells_len _ _ _ HR.out.1]; rfl) ?_; intro W9 g9 hb9) | fail)
   exact ret_cell rfl rfl HT.out hb9 rfl ⟨_, X, s6, rfl, ⟨v5, v6, HV.out, (HX.out ▸ ((P5b.out.past g6 (by omega)).past g9 (by omega)).down (by omega)), (HX.out ▸ ((P6.out.past g6 (by omega)).past g9 (by omega)).down (by omega)), HR.out⟩, (F6.out.fing g9).1, (F6.out.fing g9).2, R1.out.bind (R2.out.bind (R3.out.bind (R4.out.bind (by unfold pLEt; rw [if_neg H1.out, if_pos H2.out]; exact HX.out ▸ R5.out.bind (R6.out.bind (Rel.pure _ _))))))⟩
 have H2 := hid h2
 clear h2
 by_cases h4 : x1 = 4
 · have H4 := hid h4
   clear h4
   have b1 : (x1 == 1) = false := by simp; exact H1.out
   have b2 : (x1 == 2) = false := by simp; exact H2.out
   have b4 : (x1 == 4) = true := by rw [H4.out]; rfl
   go_wp2_with (first | (refine wpList_storeAt rfl 3 (.tmp 15) (.tmp 14) rfl rfl rfl (ty3 x4) G4.out.b1 (by rw [le_len0]; exact Nat.le_of_ble_eq_true rfl) ?_; intro W4 g4 hb4; have F4 := hid (G4.out.write g4 hb4 (C'' := lecells (LE.base x1 x2 x3 x4) nilS nilS) rfl); have c0 := F4.out.c 0 (v := .int .i64 x1) rfl; clear g4 hb4) | fail)
   refine (digest_walk R s4 _ F4.out.st).mono ?_
   rintro e w5 ⟨v5, x5, s5, rfl, ⟨rfl, hd5⟩, hg, hst, hrel⟩
   have R5 := hid hrel
   have G5 := hid (F4.out.call hg hst)
   clear hg hst hrel c0
   obtain ⟨X, hX⟩ : ∃ X : LE, X = { LE.base x1 x2 x3 x4 with root := x5 } := ⟨_, rfl⟩
   have hroot : X.root.length = 32 ∧ ∀ b ∈ X.root, b < 256 := hX ▸ hd5
   obtain ⟨V, hV⟩ : ∃ V : Value, V = leval X nilS nilS := ⟨_, rfl⟩
   have HT := hid (show TY Try.prog 111 (lecells X nilS nilS) V from hV ▸ tyLE rfl rfl hroot.1)
   have T5 := hid (tyDig x5 hd5.1)
   have HV := hid hV
   have HX := hid hX
   have HR := hid hroot
   have HLEN := hid hd5.1
   clear hV hX hroot hd5
   go_wp2_with (first | (refine wpList_storeAt rfl 45 (.tmp 35) (.tmp 34) rfl rfl rfl T5.out G5.out.b1 (by rw [le_len0, bv_length, HLEN.out]; decide) ?_; intro W5 g5 hb5; have F5 := hid (G5.out.write g5 hb5 (C'' := lecells X nilS nilS) (by rw [HX.out]; exact le_setroot (LE.base x1 x2 x3 x4) nilS nilS x5 HLEN.out))) | (refine wpList_loadTY rfl 111 (.tmp 3) rfl rfl HT.out F5.out.b1 ?_) | (refine wpList_storeTYg rfl 111 (.tmp 2) (.tmp 46) rfl rfl rfl HT.out F5.out.b0 (by rw [lecells_len _ _ _ HR.out.1]; rfl) ?_; intro W9 g9 hb9) | fail)
   exact ret_cell rfl rfl HT.out hb9 rfl ⟨_, X, s5, rfl, ⟨nilS, nilS, HV.out, (HX.out ▸ repVers_nil _ _), (HX.out ▸ repSrcs_nil _ _), HR.out⟩, (F5.out.fing g9).1, (F5.out.fing g9).2, R1.out.bind (R2.out.bind (R3.out.bind (R4.out.bind (by unfold pLEt; rw [if_neg H1.out, if_neg H2.out, if_pos H4.out]; exact HX.out ▸ R5.out.bind (Rel.pure _ _)))))⟩
 have H4 := hid h4
 clear h4
 by_cases h6 : x1 = 6
 · have H6 := hid h6
   clear h6
   have b1 : (x1 == 1) = false := by simp; exact H1.out
   have b2 : (x1 == 2) = false := by simp; exact H2.out
   have b4 : (x1 == 4) = false := by simp; exact H4.out
   have b6 : (x1 == 6) = true := by rw [H6.out]; rfl
   go_wp2_with (first | (refine wpList_storeAt rfl 3 (.tmp 15) (.tmp 14) rfl rfl rfl (ty3 x4) G4.out.b1 (by rw [le_len0]; exact Nat.le_of_ble_eq_true rfl) ?_; intro W4 g4 hb4; have F4 := hid (G4.out.write g4 hb4 (C'' := lecells (LE.base x1 x2 x3 x4) nilS nilS) rfl); have c0 := F4.out.c 0 (v := .int .i64 x1) rfl; clear g4 hb4) | fail)
   refine (link_walk R s4 _ F4.out.st).mono ?_
   rintro e w5 ⟨v5, x5, s5, rfl, rfl, hg, hst, hrel⟩
   have R5 := hid hrel
   have G5 := hid (F4.out.call hg hst)
   clear hg hst hrel c0
   obtain ⟨X, hX⟩ : ∃ X : LE, X = { LE.base x1 x2 x3 x4 with lnk := x5 } := ⟨_, rfl⟩
   have hroot : X.root.length = 32 ∧ ∀ b ∈ X.root, b < 256 := hX ▸ z32_ok
   obtain ⟨V, hV⟩ : ∃ V : Value, V = leval X nilS nilS := ⟨_, rfl⟩
   have HT := hid (show TY Try.prog 111 (lecells X nilS nilS) V from hV ▸ tyLE rfl rfl hroot.1)
   have T5 := hid (tyLnk x5)
   have HV := hid hV
   have HX := hid hX
   have HR := hid hroot
   clear hV hX hroot
   generalize valLnk x5 = u5 at *
   go_wp2_with (first | (refine wpList_storeAt rfl 107 (.tmp 40) (.tmp 39) rfl rfl rfl T5.out G5.out.b1 (by rw [le_len0]; exact Nat.le_of_ble_eq_true rfl) ?_; intro W5 g5 hb5; have F5 := hid (G5.out.write g5 hb5 (C'' := lecells X nilS nilS) (by rw [HX.out]; rfl))) | (refine wpList_loadTY rfl 111 (.tmp 3) rfl rfl HT.out F5.out.b1 ?_) | (refine wpList_storeTYg rfl 111 (.tmp 2) (.tmp 46) rfl rfl rfl HT.out F5.out.b0 (by rw [lecells_len _ _ _ HR.out.1]; rfl) ?_; intro W9 g9 hb9) | fail)
   exact ret_cell rfl rfl HT.out hb9 rfl ⟨_, X, s5, rfl, ⟨nilS, nilS, HV.out, (HX.out ▸ repVers_nil _ _), (HX.out ▸ repSrcs_nil _ _), HR.out⟩, (F5.out.fing g9).1, (F5.out.fing g9).2, R1.out.bind (R2.out.bind (R3.out.bind (R4.out.bind (by unfold pLEt; rw [if_neg H1.out, if_neg H2.out, if_neg H4.out, if_pos H6.out]; exact HX.out ▸ R5.out.bind (Rel.pure _ _)))))⟩
 have H6 := hid h6
 clear h6
 by_cases h7 : x1 = 7
 · have H7 := hid h7
   clear h7
   have b1 : (x1 == 1) = false := by simp; exact H1.out
   have b2 : (x1 == 2) = false := by simp; exact H2.out
   have b4 : (x1 == 4) = false := by simp; exact H4.out
   have b6 : (x1 == 6) = false := by simp; exact H6.out
   have b7 : (x1 == 7) = true := by rw [H7.out]; rfl
   go_wp2_with (first | (refine wpList_storeAt rfl 3 (.tmp 15) (.tmp 14) rfl rfl rfl (ty3 x4) G4.out.b1 (by rw [le_len0]; exact Nat.le_of_ble_eq_true rfl) ?_; intro W4 g4 hb4; have F4 := hid (G4.out.write g4 hb4 (C'' := lecells (LE.base x1 x2 x3 x4) nilS nilS) rfl); have c0 := F4.out.c 0 (v := .int .i64 x1) rfl; clear g4 hb4) | fail)
   refine (hold_walk R s4 _ F4.out.st).mono ?_
   rintro e w5 ⟨v5, x5, s5, rfl, rfl, hg, hst, hrel⟩
   have R5 := hid hrel
   have G5 := hid (F4.out.call hg hst)
   clear hg hst hrel c0
   obtain ⟨X, hX⟩ : ∃ X : LE, X = { LE.base x1 x2 x3 x4 with hld := x5 } := ⟨_, rfl⟩
   have hroot : X.root.length = 32 ∧ ∀ b ∈ X.root, b < 256 := hX ▸ z32_ok
   obtain ⟨V, hV⟩ : ∃ V : Value, V = leval X nilS nilS := ⟨_, rfl⟩
   have HT := hid (show TY Try.prog 111 (lecells X nilS nilS) V from hV ▸ tyLE rfl rfl hroot.1)
   have T5 := hid (tyHld x5)
   have HV := hid hV
   have HX := hid hX
   have HR := hid hroot
   clear hV hX hroot
   generalize valHld x5 = u5 at *
   go_wp2_with (first | (refine wpList_storeAt rfl 109 (.tmp 45) (.tmp 44) rfl rfl rfl T5.out G5.out.b1 (by rw [le_len0]; exact Nat.le_of_ble_eq_true rfl) ?_; intro W5 g5 hb5; have F5 := hid (G5.out.write g5 hb5 (C'' := lecells X nilS nilS) (by rw [HX.out]; rfl))) | (refine wpList_loadTY rfl 111 (.tmp 3) rfl rfl HT.out F5.out.b1 ?_) | (refine wpList_storeTYg rfl 111 (.tmp 2) (.tmp 46) rfl rfl rfl HT.out F5.out.b0 (by rw [lecells_len _ _ _ HR.out.1]; rfl) ?_; intro W9 g9 hb9) | fail)
   exact ret_cell rfl rfl HT.out hb9 rfl ⟨_, X, s5, rfl, ⟨nilS, nilS, HV.out, (HX.out ▸ repVers_nil _ _), (HX.out ▸ repSrcs_nil _ _), HR.out⟩, (F5.out.fing g9).1, (F5.out.fing g9).2, R1.out.bind (R2.out.bind (R3.out.bind (R4.out.bind (by unfold pLEt; rw [if_neg H1.out, if_neg H2.out, if_neg H4.out, if_neg H6.out, if_pos H7.out]; exact HX.out ▸ R5.out.bind (Rel.pure _ _)))))⟩
 have H7 := hid h7
 clear h7
 · have b1 : (x1 == 1) = false := by simp; exact H1.out
   have b2 : (x1 == 2) = false := by simp; exact H2.out
   have b4 : (x1 == 4) = false := by simp; exact H4.out
   have b6 : (x1 == 6) = false := by simp; exact H6.out
   have b7 : (x1 == 7) = false := by simp; exact H7.out
   obtain ⟨V, hV⟩ : ∃ V : Value, V = leval (LE.base x1 x2 x3 x4) nilS nilS := ⟨_, rfl⟩
   have HT := hid (show TY Try.prog 111 (lecells (LE.base x1 x2 x3 x4) nilS nilS) V from hV ▸ tyLE rfl rfl z32_ok.1)
   have HV := hid hV
   clear hV
   go_wp2_with (first | (refine wpList_storeAt rfl 3 (.tmp 15) (.tmp 14) rfl rfl rfl (ty3 x4) G4.out.b1 (by rw [le_len0]; exact Nat.le_of_ble_eq_true rfl) ?_; intro W4 g4 hb4; have F4 := hid (G4.out.write g4 hb4 (C'' := lecells (LE.base x1 x2 x3 x4) nilS nilS) rfl); have c0 := F4.out.c 0 (v := .int .i64 x1) rfl; clear g4 hb4) | (refine wpList_loadTY rfl 111 (.tmp 3) rfl rfl HT.out F4.out.b1 ?_) | (refine wpList_storeTYg rfl 111 (.tmp 2) (.tmp 46) rfl rfl rfl HT.out F4.out.b0 (by rw [lecells_len _ _ _ z32_ok.1]; rfl) ?_; intro W9 g9 hb9) | fail)
   exact ret_cell rfl rfl HT.out hb9 rfl ⟨_, LE.base x1 x2 x3 x4, s4, rfl, ⟨nilS, nilS, HV.out, (repVers_nil _ _), (repSrcs_nil _ _), z32_ok⟩, (F4.out.fing g9).1, (F4.out.fing g9).2, R1.out.bind (R2.out.bind (R3.out.bind (R4.out.bind (by unfold pLEt; rw [if_neg H1.out, if_neg H2.out, if_neg H4.out, if_neg H6.out, if_neg H7.out]; exact Rel.pure _ _))))⟩
end Go.Proofs.Ytkeiffccllfkpaa
