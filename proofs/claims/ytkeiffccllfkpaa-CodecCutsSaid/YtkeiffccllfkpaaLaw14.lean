/- The law CodecRequests: the walk. -/
import Derived.Test.YtkeiffccllfkpaaL14r
import Derived.Test.YtkeiffccllfkpaaLaw6
namespace Go.Proofs.Ytkeiffccllfkpaa
open Go.RowKit
set_option linter.unusedSimpArgs false
set_option linter.unusedVariables false

set_option linter.unusedVariables false
def c14vp0 (ps0 : String) : Oper := { dst := some 53, op := Go.Op.move (Go.Operand.tmp 9), type := 22, pos := ps0, after := #[], guard := none }
def c14vp1 (ps0 : String) : Oper := { dst := some 54, op := Go.Op.convert 22 9 (Go.Operand.tmp 53), type := 9, pos := ps0, after := #[{ on := 0, ground := Go.Ground.data }], guard := none }
def c14vp2 (ps0 : String) : Oper := { dst := some 55, op := Go.Op.load 105 (Go.Operand.tmp 3), type := 105, pos := ps0, after := #[], guard := none }
def c14vp3 (ps0 : String) : Oper := { dst := some 56, op := Go.Op.call { callee := Go.Callee.value (Go.Operand.func 67), args := #[Go.Operand.tmp 55], argTypes := #[105] }, type := 22, pos := ps0, after := #[{ on := 2, ground := Go.Ground.data }], guard := none }
def c14vp4 (ps0 : String) : Oper := { dst := some 57, op := Go.Op.convert 22 9 (Go.Operand.tmp 56), type := 9, pos := ps0, after := #[{ on := 3, ground := Go.Ground.data }], guard := none }
def c14vp5 (ps0 : String) : Oper := { dst := some 58, op := Go.Op.load 107 (Go.Operand.tmp 4), type := 107, pos := ps0, after := #[], guard := none }
def c14vp6 (ps0 : String) : Oper := { dst := some 59, op := Go.Op.call { callee := Go.Callee.value (Go.Operand.func 68), args := #[Go.Operand.tmp 58], argTypes := #[107] }, type := 22, pos := ps0, after := #[{ on := 5, ground := Go.Ground.data }, { on := 3, ground := Go.Ground.chain }], guard := none }
def c14vp7 (ps0 : String) : Oper := { dst := some 60, op := Go.Op.convert 22 9 (Go.Operand.tmp 59), type := 9, pos := ps0, after := #[{ on := 6, ground := Go.Ground.data }], guard := none }
def c14vp8 (ps0 : String) : Oper := { dst := some 61, op := Go.Op.binOp Go.BinOp.add 9 (Go.Operand.tmp 57) (Go.Operand.tmp 60) 9, type := 9, pos := ps0, after := #[{ on := 4, ground := Go.Ground.data }, { on := 7, ground := Go.Ground.data }], guard := none }
def c14vp9 (ps0 : String) : Oper := { dst := some 62, op := Go.Op.load 109 (Go.Operand.tmp 5), type := 109, pos := ps0, after := #[], guard := none }
def c14vp10 (ps0 : String) : Oper := { dst := some 63, op := Go.Op.call { callee := Go.Callee.value (Go.Operand.func 69), args := #[Go.Operand.tmp 62], argTypes := #[109] }, type := 22, pos := ps0, after := #[{ on := 9, ground := Go.Ground.data }, { on := 6, ground := Go.Ground.chain }], guard := none }
def c14vp11 (ps0 : String) : Oper := { dst := some 64, op := Go.Op.convert 22 9 (Go.Operand.tmp 63), type := 9, pos := ps0, after := #[{ on := 10, ground := Go.Ground.data }], guard := none }
def c14vp12 (ps0 : String) : Oper := { dst := some 65, op := Go.Op.binOp Go.BinOp.add 9 (Go.Operand.tmp 61) (Go.Operand.tmp 64) 9, type := 9, pos := ps0, after := #[{ on := 8, ground := Go.Ground.data }, { on := 11, ground := Go.Ground.data }], guard := none }
def c14vp13 (ps0 : String) : Oper := { dst := some 66, op := Go.Op.binOp Go.BinOp.neq 9 (Go.Operand.tmp 54) (Go.Operand.tmp 65) 9, type := 4, pos := ps0, after := #[{ on := 1, ground := Go.Ground.data }, { on := 12, ground := Go.Ground.data }], guard := none }
def c14vops (ps0 : String) : List Oper := [c14vp0 ps0, c14vp1 ps0, c14vp2 ps0, c14vp3 ps0, c14vp4 ps0, c14vp5 ps0, c14vp6 ps0, c14vp7 ps0, c14vp8 ps0, c14vp9 ps0, c14vp10 ps0, c14vp11 ps0, c14vp12 ps0, c14vp13 ps0]
def c14vF (q : Req) (l : Lnk) (h : Hld) (X Y Z : Nat) : List Value := [undef, undef, undef, (.pointer (some ⟨X, 0, none⟩)), (.pointer (some ⟨Y, 0, none⟩)), (.pointer (some ⟨Z, 0, none⟩)), undef, undef, undef, undef, undef, undef, undef, undef, undef, undef, undef, undef, undef, undef, undef, undef, undef, undef, undef, undef, undef, undef, undef, undef, undef, undef, undef, undef, undef, undef, undef, undef, undef, undef, undef, undef, undef, undef, undef, undef, undef, undef, undef, undef, undef, undef, undef, undef, (.string (bs (encReq q ++ encLnk l ++ encHld h))), (valReq q), undef, (.string (bs (encReq q))), (valLnk l), undef, (.string (bs (encLnk l))), (.string ((bs (encReq q)) ++ (bs (encLnk l)))), (valHld h), undef, (.string (bs (encHld h))), (.string (((bs (encReq q)) ++ (bs (encLnk l))) ++ (bs (encHld h)))), (.bool false), undef, undef, undef, undef, undef, undef, undef, undef, undef, undef, undef, undef, undef, undef, undef, undef, undef, undef, undef, undef, undef, undef, undef, undef, undef, undef, undef, undef, undef, undef, undef, undef, undef, undef, undef, undef, undef, undef, undef, undef, undef, undef, undef, undef, undef, undef, undef, undef, undef, undef, undef, undef, undef, undef, undef, undef, undef, undef, undef, undef, undef, undef, undef, undef, undef, undef, undef, undef, undef, undef, undef, undef, undef, undef, undef, undef, undef, undef, undef, undef, undef, undef, undef, undef, undef, undef, undef, undef, undef, undef, undef, undef]
def c14vL (q : Req) (l : Lnk) (h : Hld) (X Y Z : Nat) : List Sp := [Sp.any, Sp.any, Sp.any, Sp.is (.pointer (some ⟨X, 0, none⟩)), Sp.is (.pointer (some ⟨Y, 0, none⟩)), Sp.is (.pointer (some ⟨Z, 0, none⟩)), Sp.any, Sp.any, Sp.any, Sp.sl (encReq q ++ encLnk l ++ encHld h), Sp.any, Sp.any, Sp.any, Sp.any, Sp.any, Sp.any, Sp.any, Sp.any, Sp.any, Sp.any, Sp.any, Sp.any, Sp.any, Sp.any, Sp.any, Sp.any, Sp.any, Sp.any, Sp.any, Sp.any, Sp.any, Sp.any, Sp.any, Sp.any, Sp.any, Sp.any, Sp.any, Sp.any, Sp.any, Sp.any, Sp.any, Sp.any, Sp.any, Sp.any, Sp.any, Sp.any, Sp.any, Sp.any, Sp.any, Sp.any, Sp.any, Sp.any, Sp.any, Sp.sl (encReq q ++ encLnk l ++ encHld h), Sp.is (.string (bs (encReq q ++ encLnk l ++ encHld h))), Sp.is (valReq q), Sp.sl (encReq q), Sp.is (.string (bs (encReq q))), Sp.is (valLnk l), Sp.sl (encLnk l), Sp.is (.string (bs (encLnk l))), Sp.is (.string ((bs (encReq q)) ++ (bs (encLnk l)))), Sp.is (valHld h), Sp.sl (encHld h), Sp.is (.string (bs (encHld h))), Sp.is (.string (((bs (encReq q)) ++ (bs (encLnk l))) ++ (bs (encHld h)))), Sp.is (.bool false), Sp.any, Sp.any, Sp.any, Sp.any, Sp.any, Sp.any, Sp.any, Sp.any, Sp.any, Sp.any, Sp.any, Sp.any, Sp.any, Sp.any, Sp.any, Sp.any, Sp.any, Sp.any, Sp.any, Sp.any, Sp.any, Sp.any, Sp.any, Sp.any, Sp.any, Sp.any, Sp.any, Sp.any, Sp.any, Sp.any, Sp.any, Sp.any, Sp.any, Sp.any, Sp.any, Sp.any, Sp.any, Sp.any, Sp.any, Sp.any, Sp.any, Sp.any, Sp.any, Sp.any, Sp.any, Sp.any, Sp.any, Sp.any, Sp.any, Sp.any, Sp.any, Sp.any, Sp.any, Sp.any, Sp.any, Sp.any, Sp.any, Sp.any, Sp.any, Sp.any, Sp.any, Sp.any, Sp.any, Sp.any, Sp.any, Sp.any, Sp.any, Sp.any, Sp.any, Sp.any, Sp.any, Sp.any, Sp.any, Sp.any, Sp.any, Sp.any, Sp.any, Sp.any, Sp.any, Sp.any, Sp.any, Sp.any, Sp.any, Sp.any, Sp.any, Sp.any, Sp.any, Sp.any, Sp.any, Sp.any, Sp.any, Sp.any]
theorem c14v_reg (ps0 : String) : regB (c14vops ps0).toArray 159 = true := by kernel_rfl
theorem c14v_m (ps0 : String) : dstsB (c14vops ps0) 159 = [false, false, false, false, false, false, false, false, false, false, false, false, false, false, false, false, false, false, false, false, false, false, false, false, false, false, false, false, false, false, false, false, false, false, false, false, false, false, false, false, false, false, false, false, false, false, false, false, false, false, false, false, false, true, true, true, true, true, true, true, true, true, true, true, true, true, true, false, false, false, false, false, false, false, false, false, false, false, false, false, false, false, false, false, false, false, false, false, false, false, false, false, false, false, false, false, false, false, false, false, false, false, false, false, false, false, false, false, false, false, false, false, false, false, false, false, false, false, false, false, false, false, false, false, false, false, false, false, false, false, false, false, false, false, false, false, false, false, false, false, false, false, false, false, false, false, false, false, false, false, false, false, false, false, false, false, false, false, false] := by kernel_rfl
set_option maxRecDepth 100000 in
theorem c14v_o0 (ps0 : String) (q : Req) (l : Lnk) (h : Hld) (X Y Z : Nat) (w0 : World) (hX : w0.heap[X]? = some (.cells (reqcells q).toArray 105 (0, 0))) (hY : w0.heap[Y]? = some (.cells (lnkcells l).toArray 107 (0, 0))) (hZ : w0.heap[Z]? = some (.cells (hldcells h).toArray 109 (0, 0))) (hq : q.wf ∧ q.who.ns.size ≤ 16) (hl : I64 l.seq ∧ l.a.ns.size ≤ 16 ∧ l.b.ns.size ≤ 16) (hh : h.wf ∧ h.who.ns.size ≤ 16) (hb : (encReq q).length ≤ 3000000 ∧ (encLnk l).length ≤ 3000000 ∧ (encHld h).length ≤ 3000000) : Ob Try.prog (c14vops ps0).toArray (c14vL q l h X Y Z) 159 w0 (c14vp0 ps0) := ob_move 9 53 rfl rfl (by decide) trivial (fun _ _ h => h)
set_option maxRecDepth 100000 in
theorem c14v_o1 (ps0 : String) (q : Req) (l : Lnk) (h : Hld) (X Y Z : Nat) (w0 : World) (hX : w0.heap[X]? = some (.cells (reqcells q).toArray 105 (0, 0))) (hY : w0.heap[Y]? = some (.cells (lnkcells l).toArray 107 (0, 0))) (hZ : w0.heap[Z]? = some (.cells (hldcells h).toArray 109 (0, 0))) (hq : q.wf ∧ q.who.ns.size ≤ 16) (hl : I64 l.seq ∧ l.a.ns.size ≤ 16 ∧ l.b.ns.size ≤ 16) (hh : h.wf ∧ h.who.ns.size ≤ 16) (hb : (encReq q).length ≤ 3000000 ∧ (encLnk l).length ≤ 3000000 ∧ (encHld h).length ≤ 3000000) : Ob Try.prog (c14vops ps0).toArray (c14vL q l h X Y Z) 159 w0 (c14vp1 ps0) := ob_conv 53 54 22 9 5 Try.underlying22 Try.underlying5 Try.underlying9 (encReq q ++ encLnk l ++ encHld h) rfl rfl (by decide) trivial (fun _ _ _ h => h) (fun _ => rfl)
set_option maxRecDepth 100000 in
theorem c14v_o2 (ps0 : String) (q : Req) (l : Lnk) (h : Hld) (X Y Z : Nat) (w0 : World) (hX : w0.heap[X]? = some (.cells (reqcells q).toArray 105 (0, 0))) (hY : w0.heap[Y]? = some (.cells (lnkcells l).toArray 107 (0, 0))) (hZ : w0.heap[Z]? = some (.cells (hldcells h).toArray 109 (0, 0))) (hq : q.wf ∧ q.who.ns.size ≤ 16) (hl : I64 l.seq ∧ l.a.ns.size ≤ 16 ∧ l.b.ns.size ≤ 16) (hh : h.wf ∧ h.who.ns.size ≤ 16) (hb : (encReq q).length ≤ 3000000 ∧ (encLnk l).length ≤ 3000000 ∧ (encHld h).length ≤ 3000000) : Ob Try.prog (c14vops ps0).toArray (c14vL q l h X Y Z) 159 w0 (c14vp2 ps0) := ob_load rfl rfl trivial ⟨by decide, fun _ _ h => h⟩ (tyReq q) (rangeAt_row hX) (fun _ _ => rfl)
set_option maxRecDepth 100000 in
theorem c14v_o3 (ps0 : String) (q : Req) (l : Lnk) (h : Hld) (X Y Z : Nat) (w0 : World) (hX : w0.heap[X]? = some (.cells (reqcells q).toArray 105 (0, 0))) (hY : w0.heap[Y]? = some (.cells (lnkcells l).toArray 107 (0, 0))) (hZ : w0.heap[Z]? = some (.cells (hldcells h).toArray 109 (0, 0))) (hq : q.wf ∧ q.who.ns.size ≤ 16) (hl : I64 l.seq ∧ l.a.ns.size ≤ 16 ∧ l.b.ns.size ≤ 16) (hh : h.wf ∧ h.who.ns.size ≤ 16) (hb : (encReq q).length ≤ 3000000 ∧ (encLnk l).length ≤ 3000000 ∧ (encHld h).length ≤ 3000000) : Ob Try.prog (c14vops ps0).toArray (c14vL q l h X Y Z) 159 w0 (c14vp3 ps0) := ob_call2 [(valReq q)] rfl rfl trivial ⟨⟨by decide, fun _ _ h => h⟩, trivial⟩ (fun w hw => (refRequest_walk q w hq.1 (by omega)).mono fun e w1 ⟨v, he, ho, hf⟩ => ⟨v, he, Step.none hf, Sl.of_own ho⟩) (enter_of Try.func67 (by kernel_rfl) rfl)
set_option maxRecDepth 100000 in
theorem c14v_o4 (ps0 : String) (q : Req) (l : Lnk) (h : Hld) (X Y Z : Nat) (w0 : World) (hX : w0.heap[X]? = some (.cells (reqcells q).toArray 105 (0, 0))) (hY : w0.heap[Y]? = some (.cells (lnkcells l).toArray 107 (0, 0))) (hZ : w0.heap[Z]? = some (.cells (hldcells h).toArray 109 (0, 0))) (hq : q.wf ∧ q.who.ns.size ≤ 16) (hl : I64 l.seq ∧ l.a.ns.size ≤ 16 ∧ l.b.ns.size ≤ 16) (hh : h.wf ∧ h.who.ns.size ≤ 16) (hb : (encReq q).length ≤ 3000000 ∧ (encLnk l).length ≤ 3000000 ∧ (encHld h).length ≤ 3000000) : Ob Try.prog (c14vops ps0).toArray (c14vL q l h X Y Z) 159 w0 (c14vp4 ps0) := ob_conv 56 57 22 9 5 Try.underlying22 Try.underlying5 Try.underlying9 (encReq q) rfl rfl (by decide) trivial (fun _ _ _ h => h) (fun _ => rfl)
set_option maxRecDepth 100000 in
theorem c14v_o5 (ps0 : String) (q : Req) (l : Lnk) (h : Hld) (X Y Z : Nat) (w0 : World) (hX : w0.heap[X]? = some (.cells (reqcells q).toArray 105 (0, 0))) (hY : w0.heap[Y]? = some (.cells (lnkcells l).toArray 107 (0, 0))) (hZ : w0.heap[Z]? = some (.cells (hldcells h).toArray 109 (0, 0))) (hq : q.wf ∧ q.who.ns.size ≤ 16) (hl : I64 l.seq ∧ l.a.ns.size ≤ 16 ∧ l.b.ns.size ≤ 16) (hh : h.wf ∧ h.who.ns.size ≤ 16) (hb : (encReq q).length ≤ 3000000 ∧ (encLnk l).length ≤ 3000000 ∧ (encHld h).length ≤ 3000000) : Ob Try.prog (c14vops ps0).toArray (c14vL q l h X Y Z) 159 w0 (c14vp5 ps0) := ob_load rfl rfl trivial ⟨by decide, fun _ _ h => h⟩ (tyLnk l) (rangeAt_row hY) (fun _ _ => rfl)
set_option maxRecDepth 100000 in
theorem c14v_o6 (ps0 : String) (q : Req) (l : Lnk) (h : Hld) (X Y Z : Nat) (w0 : World) (hX : w0.heap[X]? = some (.cells (reqcells q).toArray 105 (0, 0))) (hY : w0.heap[Y]? = some (.cells (lnkcells l).toArray 107 (0, 0))) (hZ : w0.heap[Z]? = some (.cells (hldcells h).toArray 109 (0, 0))) (hq : q.wf ∧ q.who.ns.size ≤ 16) (hl : I64 l.seq ∧ l.a.ns.size ≤ 16 ∧ l.b.ns.size ≤ 16) (hh : h.wf ∧ h.who.ns.size ≤ 16) (hb : (encReq q).length ≤ 3000000 ∧ (encLnk l).length ≤ 3000000 ∧ (encHld h).length ≤ 3000000) : Ob Try.prog (c14vops ps0).toArray (c14vL q l h X Y Z) 159 w0 (c14vp6 ps0) := ob_call2 [(valLnk l)] rfl rfl trivial ⟨⟨by decide, fun _ _ h => h⟩, trivial⟩ (fun w hw => (refLink_walk l w hl.1 ⟨by omega, by omega⟩).mono fun e w1 ⟨v, he, ho, hf⟩ => ⟨v, he, Step.none hf, Sl.of_own ho⟩) (enter_of Try.func68 (by kernel_rfl) rfl)
set_option maxRecDepth 100000 in
theorem c14v_o7 (ps0 : String) (q : Req) (l : Lnk) (h : Hld) (X Y Z : Nat) (w0 : World) (hX : w0.heap[X]? = some (.cells (reqcells q).toArray 105 (0, 0))) (hY : w0.heap[Y]? = some (.cells (lnkcells l).toArray 107 (0, 0))) (hZ : w0.heap[Z]? = some (.cells (hldcells h).toArray 109 (0, 0))) (hq : q.wf ∧ q.who.ns.size ≤ 16) (hl : I64 l.seq ∧ l.a.ns.size ≤ 16 ∧ l.b.ns.size ≤ 16) (hh : h.wf ∧ h.who.ns.size ≤ 16) (hb : (encReq q).length ≤ 3000000 ∧ (encLnk l).length ≤ 3000000 ∧ (encHld h).length ≤ 3000000) : Ob Try.prog (c14vops ps0).toArray (c14vL q l h X Y Z) 159 w0 (c14vp7 ps0) := ob_conv 59 60 22 9 5 Try.underlying22 Try.underlying5 Try.underlying9 (encLnk l) rfl rfl (by decide) trivial (fun _ _ _ h => h) (fun _ => rfl)
set_option maxRecDepth 100000 in
theorem c14v_o8 (ps0 : String) (q : Req) (l : Lnk) (h : Hld) (X Y Z : Nat) (w0 : World) (hX : w0.heap[X]? = some (.cells (reqcells q).toArray 105 (0, 0))) (hY : w0.heap[Y]? = some (.cells (lnkcells l).toArray 107 (0, 0))) (hZ : w0.heap[Z]? = some (.cells (hldcells h).toArray 109 (0, 0))) (hq : q.wf ∧ q.who.ns.size ≤ 16) (hl : I64 l.seq ∧ l.a.ns.size ≤ 16 ∧ l.b.ns.size ≤ 16) (hh : h.wf ∧ h.who.ns.size ≤ 16) (hb : (encReq q).length ≤ 3000000 ∧ (encLnk l).length ≤ 3000000 ∧ (encHld h).length ≤ 3000000) : Ob Try.prog (c14vops ps0).toArray (c14vL q l h X Y Z) 159 w0 (c14vp8 ps0) := ob_addS rfl rfl trivial ⟨by decide, fun _ _ h => h⟩ ⟨by decide, fun _ _ h => h⟩ (by rw [bs_size, bs_size]; omega) (fun _ => rfl)
set_option maxRecDepth 100000 in
theorem c14v_o9 (ps0 : String) (q : Req) (l : Lnk) (h : Hld) (X Y Z : Nat) (w0 : World) (hX : w0.heap[X]? = some (.cells (reqcells q).toArray 105 (0, 0))) (hY : w0.heap[Y]? = some (.cells (lnkcells l).toArray 107 (0, 0))) (hZ : w0.heap[Z]? = some (.cells (hldcells h).toArray 109 (0, 0))) (hq : q.wf ∧ q.who.ns.size ≤ 16) (hl : I64 l.seq ∧ l.a.ns.size ≤ 16 ∧ l.b.ns.size ≤ 16) (hh : h.wf ∧ h.who.ns.size ≤ 16) (hb : (encReq q).length ≤ 3000000 ∧ (encLnk l).length ≤ 3000000 ∧ (encHld h).length ≤ 3000000) : Ob Try.prog (c14vops ps0).toArray (c14vL q l h X Y Z) 159 w0 (c14vp9 ps0) := ob_load rfl rfl trivial ⟨by decide, fun _ _ h => h⟩ (tyHld h) (rangeAt_row hZ) (fun _ _ => rfl)
set_option maxRecDepth 100000 in
theorem c14v_o10 (ps0 : String) (q : Req) (l : Lnk) (h : Hld) (X Y Z : Nat) (w0 : World) (hX : w0.heap[X]? = some (.cells (reqcells q).toArray 105 (0, 0))) (hY : w0.heap[Y]? = some (.cells (lnkcells l).toArray 107 (0, 0))) (hZ : w0.heap[Z]? = some (.cells (hldcells h).toArray 109 (0, 0))) (hq : q.wf ∧ q.who.ns.size ≤ 16) (hl : I64 l.seq ∧ l.a.ns.size ≤ 16 ∧ l.b.ns.size ≤ 16) (hh : h.wf ∧ h.who.ns.size ≤ 16) (hb : (encReq q).length ≤ 3000000 ∧ (encLnk l).length ≤ 3000000 ∧ (encHld h).length ≤ 3000000) : Ob Try.prog (c14vops ps0).toArray (c14vL q l h X Y Z) 159 w0 (c14vp10 ps0) := ob_call2 [(valHld h)] rfl rfl trivial ⟨⟨by decide, fun _ _ h => h⟩, trivial⟩ (fun w hw => (refHold_walk h w hh.1 (by omega)).mono fun e w1 ⟨v, he, ho, hf⟩ => ⟨v, he, Step.none hf, Sl.of_own ho⟩) (enter_of Try.func69 (by kernel_rfl) rfl)
set_option maxRecDepth 100000 in
theorem c14v_o11 (ps0 : String) (q : Req) (l : Lnk) (h : Hld) (X Y Z : Nat) (w0 : World) (hX : w0.heap[X]? = some (.cells (reqcells q).toArray 105 (0, 0))) (hY : w0.heap[Y]? = some (.cells (lnkcells l).toArray 107 (0, 0))) (hZ : w0.heap[Z]? = some (.cells (hldcells h).toArray 109 (0, 0))) (hq : q.wf ∧ q.who.ns.size ≤ 16) (hl : I64 l.seq ∧ l.a.ns.size ≤ 16 ∧ l.b.ns.size ≤ 16) (hh : h.wf ∧ h.who.ns.size ≤ 16) (hb : (encReq q).length ≤ 3000000 ∧ (encLnk l).length ≤ 3000000 ∧ (encHld h).length ≤ 3000000) : Ob Try.prog (c14vops ps0).toArray (c14vL q l h X Y Z) 159 w0 (c14vp11 ps0) := ob_conv 63 64 22 9 5 Try.underlying22 Try.underlying5 Try.underlying9 (encHld h) rfl rfl (by decide) trivial (fun _ _ _ h => h) (fun _ => rfl)
set_option maxRecDepth 100000 in
theorem c14v_o12 (ps0 : String) (q : Req) (l : Lnk) (h : Hld) (X Y Z : Nat) (w0 : World) (hX : w0.heap[X]? = some (.cells (reqcells q).toArray 105 (0, 0))) (hY : w0.heap[Y]? = some (.cells (lnkcells l).toArray 107 (0, 0))) (hZ : w0.heap[Z]? = some (.cells (hldcells h).toArray 109 (0, 0))) (hq : q.wf ∧ q.who.ns.size ≤ 16) (hl : I64 l.seq ∧ l.a.ns.size ≤ 16 ∧ l.b.ns.size ≤ 16) (hh : h.wf ∧ h.who.ns.size ≤ 16) (hb : (encReq q).length ≤ 3000000 ∧ (encLnk l).length ≤ 3000000 ∧ (encHld h).length ≤ 3000000) : Ob Try.prog (c14vops ps0).toArray (c14vL q l h X Y Z) 159 w0 (c14vp12 ps0) := ob_addS rfl rfl trivial ⟨by decide, fun _ _ h => h⟩ ⟨by decide, fun _ _ h => h⟩ (by rw [bs_append, bs_size, bs_size, List.length_append]; omega) (fun _ => rfl)
set_option maxRecDepth 100000 in
theorem c14v_o13 (ps0 : String) (q : Req) (l : Lnk) (h : Hld) (X Y Z : Nat) (w0 : World) (hX : w0.heap[X]? = some (.cells (reqcells q).toArray 105 (0, 0))) (hY : w0.heap[Y]? = some (.cells (lnkcells l).toArray 107 (0, 0))) (hZ : w0.heap[Z]? = some (.cells (hldcells h).toArray 109 (0, 0))) (hq : q.wf ∧ q.who.ns.size ≤ 16) (hl : I64 l.seq ∧ l.a.ns.size ≤ 16 ∧ l.b.ns.size ≤ 16) (hh : h.wf ∧ h.who.ns.size ≤ 16) (hb : (encReq q).length ≤ 3000000 ∧ (encLnk l).length ≤ 3000000 ∧ (encHld h).length ≤ 3000000) : Ob Try.prog (c14vops ps0).toArray (c14vL q l h X Y Z) 159 w0 (c14vp13 ps0) := ob_neS rfl rfl trivial ⟨by decide, fun _ _ h => h⟩ ⟨by decide, fun _ _ h => h⟩ (by rw [bs_append, bs_append]) (fun _ => rfl)
set_option maxRecDepth 100000 in
theorem c14v_ob (ps0 : String) (q : Req) (l : Lnk) (h : Hld) (X Y Z : Nat) (w0 : World) (hX : w0.heap[X]? = some (.cells (reqcells q).toArray 105 (0, 0))) (hY : w0.heap[Y]? = some (.cells (lnkcells l).toArray 107 (0, 0))) (hZ : w0.heap[Z]? = some (.cells (hldcells h).toArray 109 (0, 0))) (hq : q.wf ∧ q.who.ns.size ≤ 16) (hl : I64 l.seq ∧ l.a.ns.size ≤ 16 ∧ l.b.ns.size ≤ 16) (hh : h.wf ∧ h.who.ns.size ≤ 16) (hb : (encReq q).length ≤ 3000000 ∧ (encLnk l).length ≤ 3000000 ∧ (encHld h).length ≤ 3000000) : ObAll Try.prog (c14vops ps0).toArray (c14vL q l h X Y Z) 159 w0 (c14vops ps0) := ⟨c14v_o0 ps0 q l h X Y Z w0 hX hY hZ hq hl hh hb, c14v_o1 ps0 q l h X Y Z w0 hX hY hZ hq hl hh hb, c14v_o2 ps0 q l h X Y Z w0 hX hY hZ hq hl hh hb, c14v_o3 ps0 q l h X Y Z w0 hX hY hZ hq hl hh hb, c14v_o4 ps0 q l h X Y Z w0 hX hY hZ hq hl hh hb, c14v_o5 ps0 q l h X Y Z w0 hX hY hZ hq hl hh hb, c14v_o6 ps0 q l h X Y Z w0 hX hY hZ hq hl hh hb, c14v_o7 ps0 q l h X Y Z w0 hX hY hZ hq hl hh hb, c14v_o8 ps0 q l h X Y Z w0 hX hY hZ hq hl hh hb, c14v_o9 ps0 q l h X Y Z w0 hX hY hZ hq hl hh hb, c14v_o10 ps0 q l h X Y Z w0 hX hY hZ hq hl hh hb, c14v_o11 ps0 q l h X Y Z w0 hX hY hZ hq hl hh hb, c14v_o12 ps0 q l h X Y Z w0 hX hY hZ hq hl hh hb, c14v_o13 ps0 q l h X Y Z w0 hX hY hZ hq hl hh hb, trivial⟩

theorem encIdf_byte (x : Idf) : ∀ b ∈ encIdf x, b < 256 := app_byte (fun b hb => by
  unfold encT at hb
  rcases List.mem_append.1 hb with h | h
  · exact enc_byte _ b h
  · exact by_lt _ b h) (encV_byte _)
theorem encReq_byte (x : Req) : ∀ b ∈ encReq x, b < 256 := app_byte (enc_byte _) (app_byte (encIdf_byte _) (app_byte (enc_byte _) (app_byte (enc_byte _) (enc_byte _))))
theorem encLnk_byte (x : Lnk) : ∀ b ∈ encLnk x, b < 256 := app_byte (encIdf_byte _) (app_byte (encIdf_byte _) (app_byte (enc_byte _) (enc_byte _)))
theorem encHld_byte (x : Hld) : ∀ b ∈ encHld x, b < 256 := app_byte (enc_byte _) (app_byte (enc_byte _) (app_byte (encIdf_byte _) (app_byte (enc_byte _) (app_byte (enc_byte _) (enc_byte _)))))
theorem encLnk_pos (x : Lnk) : 0 < (encLnk x).length := by unfold encLnk; have := enc_pos x.seq; simp only [List.length_append]; omega
theorem encHld_pos (x : Hld) : 0 < (encHld x).length := by unfold encHld; have := enc_pos x.seq; simp only [List.length_append]; omega
theorem encIdf_pos (x : Idf) : 0 < (encIdf x).length := by unfold encIdf; have := encT_pos x.ns; simp only [List.length_append]; omega
set_option maxRecDepth 100000 in
set_option maxHeartbeats 4000000 in
theorem codecRequests_walk (q : Req) (l : Lnk) (h : Hld) (w : World) (hq : q.wf) (hl : I64 l.seq) (hh : h.wf) :
    Calls Try.prog 14 #[valReq q, valLnk l, valHld h] w fun e w' => e = .returned (.bool true) ∧ w.grownBy w' none := by
  have HQ := hid hq
  have HL := hid hl
  have HH := hid hh
  clear hq hl hh
  show Calls Try.prog 14 #[.agg #[.int .i64 q.kind, .string q.who.ns, .int .i64 q.who.val.kind, .int .i64 q.who.val.int, .string q.who.val.text, .int .i64 q.seq, .int .i64 q.day, .int .i64 q.deadline], .agg #[.string l.a.ns, .int .i64 l.a.val.kind, .int .i64 l.a.val.int, .string l.a.val.text, .string l.b.ns, .int .i64 l.b.val.kind, .int .i64 l.b.val.int, .string l.b.val.text, .int .i64 l.seq, .bool l.rev], .agg #[.int .i64 h.table, .int .i64 h.column, .string h.who.ns, .int .i64 h.who.val.kind, .int .i64 h.who.val.int, .string h.who.val.text, .int .i64 h.seq, .int .i64 h.since, .int .i64 h.till]] w _
  by_cases n0 : ¬ q.who.ns.size ≤ 16
  · have d0 : decide (q.who.ns.size ≤ 16) = false := decide_eq_false n0
    go_enter Try.func14, Try.ntmps14
    go_wp2_with fail
    refine (named_walk q.who _).mono ?_
    rintro e w1 ⟨rfl, hg⟩
    have G1 := hid (grown_trans (grown_trans (grown_trans (World.grownBy_alloc w (.cells #[.int .i64 q.kind, .string q.who.ns, .int .i64 q.who.val.kind, .int .i64 q.who.val.int, .string q.who.val.text, .int .i64 q.seq, .int .i64 q.day, .int .i64 q.deadline] 105) none) (World.grownBy_alloc _ (.cells #[.string l.a.ns, .int .i64 l.a.val.kind, .int .i64 l.a.val.int, .string l.a.val.text, .string l.b.ns, .int .i64 l.b.val.kind, .int .i64 l.b.val.int, .string l.b.val.text, .int .i64 l.seq, .bool l.rev] 107) none)) (World.grownBy_alloc _ (.cells #[.int .i64 h.table, .int .i64 h.column, .string h.who.ns, .int .i64 h.who.val.kind, .int .i64 h.who.val.int, .string h.who.val.text, .int .i64 h.seq, .int .i64 h.since, .int .i64 h.till] 109) none)) hg)
    have B1 := hid (And.intro (row_of hg (row_of (World.grownBy_alloc _ (.cells #[.int .i64 h.table, .int .i64 h.column, .string h.who.ns, .int .i64 h.who.val.kind, .int .i64 h.who.val.int, .string h.who.val.text, .int .i64 h.seq, .int .i64 h.since, .int .i64 h.till] 109) none) (row_of (World.grownBy_alloc _ (.cells #[.string l.a.ns, .int .i64 l.a.val.kind, .int .i64 l.a.val.int, .string l.a.val.text, .string l.b.ns, .int .i64 l.b.val.kind, .int .i64 l.b.val.int, .string l.b.val.text, .int .i64 l.seq, .bool l.rev] 107) none) (heap_at (w := w) (o := (.cells #[.int .i64 q.kind, .string q.who.ns, .int .i64 q.who.val.kind, .int .i64 q.who.val.int, .string q.who.val.text, .int .i64 q.seq, .int .i64 q.day, .int .i64 q.deadline] 105)) rfl) (by simp)) (by simp)) (by simp)) (And.intro (row_of hg (row_of (World.grownBy_alloc _ (.cells #[.int .i64 h.table, .int .i64 h.column, .string h.who.ns, .int .i64 h.who.val.kind, .int .i64 h.who.val.int, .string h.who.val.text, .int .i64 h.seq, .int .i64 h.since, .int .i64 h.till] 109) none) (heap_at (w := w.alloc (.cells #[.int .i64 q.kind, .string q.who.ns, .int .i64 q.who.val.kind, .int .i64 q.who.val.int, .string q.who.val.text, .int .i64 q.seq, .int .i64 q.day, .int .i64 q.deadline] 105)) (o := (.cells #[.string l.a.ns, .int .i64 l.a.val.kind, .int .i64 l.a.val.int, .string l.a.val.text, .string l.b.ns, .int .i64 l.b.val.kind, .int .i64 l.b.val.int, .string l.b.val.text, .int .i64 l.seq, .bool l.rev] 107)) (n := w.heap.size + 1) (by simp)) (by simp)) (by simp)) (row_of hg (heap_at (w := (w.alloc (.cells #[.int .i64 q.kind, .string q.who.ns, .int .i64 q.who.val.kind, .int .i64 q.who.val.int, .string q.who.val.text, .int .i64 q.seq, .int .i64 q.day, .int .i64 q.deadline] 105)).alloc (.cells #[.string l.a.ns, .int .i64 l.a.val.kind, .int .i64 l.a.val.int, .string l.a.val.text, .string l.b.ns, .int .i64 l.b.val.kind, .int .i64 l.b.val.int, .string l.b.val.text, .int .i64 l.seq, .bool l.rev] 107)) (o := (.cells #[.int .i64 h.table, .int .i64 h.column, .string h.who.ns, .int .i64 h.who.val.kind, .int .i64 h.who.val.int, .string h.who.val.text, .int .i64 h.seq, .int .i64 h.since, .int .i64 h.till] 109)) (n := w.heap.size + 2) (by simp)) (by simp))))
    clear hg
    have y0 : ∀ j, w1.cell? ⟨w.heap.size, j, none⟩ = (#[.int .i64 q.kind, .string q.who.ns, .int .i64 q.who.val.kind, .int .i64 q.who.val.int, .string q.who.val.text, .int .i64 q.seq, .int .i64 q.day, .int .i64 q.deadline] : Array Value)[j]? := fun j => cell_of_row w1 _ j _ _ _ B1.out.1
    have y1 : ∀ j, w1.cell? ⟨w.heap.size + 1, j, none⟩ = (#[.string l.a.ns, .int .i64 l.a.val.kind, .int .i64 l.a.val.int, .string l.a.val.text, .string l.b.ns, .int .i64 l.b.val.kind, .int .i64 l.b.val.int, .string l.b.val.text, .int .i64 l.seq, .bool l.rev] : Array Value)[j]? := fun j => cell_of_row w1 _ j _ _ _ B1.out.2.1
    have y2 : ∀ j, w1.cell? ⟨w.heap.size + 2, j, none⟩ = (#[.int .i64 h.table, .int .i64 h.column, .string h.who.ns, .int .i64 h.who.val.kind, .int .i64 h.who.val.int, .string h.who.val.text, .int .i64 h.seq, .int .i64 h.since, .int .i64 h.till] : Array Value)[j]? := fun j => cell_of_row w1 _ j _ _ _ B1.out.2.2
    go_wp2_with (go_at_call 18; refine (awake_walk _).mono ?_; rintro e w' ⟨rfl, hg⟩)
    go_ret
    exact ⟨rfl, grown_trans G1.out hg⟩
  have n0 : q.who.ns.size ≤ 16 := by omega
  have d0 : decide (q.who.ns.size ≤ 16) = true := decide_eq_true n0
  by_cases n1 : ¬ l.a.ns.size ≤ 16
  · have d1 : decide (l.a.ns.size ≤ 16) = false := decide_eq_false n1
    go_enter Try.func14, Try.ntmps14
    go_wp2_with fail
    refine (named_walk q.who _).mono ?_
    rintro e w1 ⟨rfl, hg⟩
    have G1 := hid (grown_trans (grown_trans (grown_trans (World.grownBy_alloc w (.cells #[.int .i64 q.kind, .string q.who.ns, .int .i64 q.who.val.kind, .int .i64 q.who.val.int, .string q.who.val.text, .int .i64 q.seq, .int .i64 q.day, .int .i64 q.deadline] 105) none) (World.grownBy_alloc _ (.cells #[.string l.a.ns, .int .i64 l.a.val.kind, .int .i64 l.a.val.int, .string l.a.val.text, .string l.b.ns, .int .i64 l.b.val.kind, .int .i64 l.b.val.int, .string l.b.val.text, .int .i64 l.seq, .bool l.rev] 107) none)) (World.grownBy_alloc _ (.cells #[.int .i64 h.table, .int .i64 h.column, .string h.who.ns, .int .i64 h.who.val.kind, .int .i64 h.who.val.int, .string h.who.val.text, .int .i64 h.seq, .int .i64 h.since, .int .i64 h.till] 109) none)) hg)
    have B1 := hid (And.intro (row_of hg (row_of (World.grownBy_alloc _ (.cells #[.int .i64 h.table, .int .i64 h.column, .string h.who.ns, .int .i64 h.who.val.kind, .int .i64 h.who.val.int, .string h.who.val.text, .int .i64 h.seq, .int .i64 h.since, .int .i64 h.till] 109) none) (row_of (World.grownBy_alloc _ (.cells #[.string l.a.ns, .int .i64 l.a.val.kind, .int .i64 l.a.val.int, .string l.a.val.text, .string l.b.ns, .int .i64 l.b.val.kind, .int .i64 l.b.val.int, .string l.b.val.text, .int .i64 l.seq, .bool l.rev] 107) none) (heap_at (w := w) (o := (.cells #[.int .i64 q.kind, .string q.who.ns, .int .i64 q.who.val.kind, .int .i64 q.who.val.int, .string q.who.val.text, .int .i64 q.seq, .int .i64 q.day, .int .i64 q.deadline] 105)) rfl) (by simp)) (by simp)) (by simp)) (And.intro (row_of hg (row_of (World.grownBy_alloc _ (.cells #[.int .i64 h.table, .int .i64 h.column, .string h.who.ns, .int .i64 h.who.val.kind, .int .i64 h.who.val.int, .string h.who.val.text, .int .i64 h.seq, .int .i64 h.since, .int .i64 h.till] 109) none) (heap_at (w := w.alloc (.cells #[.int .i64 q.kind, .string q.who.ns, .int .i64 q.who.val.kind, .int .i64 q.who.val.int, .string q.who.val.text, .int .i64 q.seq, .int .i64 q.day, .int .i64 q.deadline] 105)) (o := (.cells #[.string l.a.ns, .int .i64 l.a.val.kind, .int .i64 l.a.val.int, .string l.a.val.text, .string l.b.ns, .int .i64 l.b.val.kind, .int .i64 l.b.val.int, .string l.b.val.text, .int .i64 l.seq, .bool l.rev] 107)) (n := w.heap.size + 1) (by simp)) (by simp)) (by simp)) (row_of hg (heap_at (w := (w.alloc (.cells #[.int .i64 q.kind, .string q.who.ns, .int .i64 q.who.val.kind, .int .i64 q.who.val.int, .string q.who.val.text, .int .i64 q.seq, .int .i64 q.day, .int .i64 q.deadline] 105)).alloc (.cells #[.string l.a.ns, .int .i64 l.a.val.kind, .int .i64 l.a.val.int, .string l.a.val.text, .string l.b.ns, .int .i64 l.b.val.kind, .int .i64 l.b.val.int, .string l.b.val.text, .int .i64 l.seq, .bool l.rev] 107)) (o := (.cells #[.int .i64 h.table, .int .i64 h.column, .string h.who.ns, .int .i64 h.who.val.kind, .int .i64 h.who.val.int, .string h.who.val.text, .int .i64 h.seq, .int .i64 h.since, .int .i64 h.till] 109)) (n := w.heap.size + 2) (by simp)) (by simp))))
    clear hg
    have y0 : ∀ j, w1.cell? ⟨w.heap.size, j, none⟩ = (#[.int .i64 q.kind, .string q.who.ns, .int .i64 q.who.val.kind, .int .i64 q.who.val.int, .string q.who.val.text, .int .i64 q.seq, .int .i64 q.day, .int .i64 q.deadline] : Array Value)[j]? := fun j => cell_of_row w1 _ j _ _ _ B1.out.1
    have y1 : ∀ j, w1.cell? ⟨w.heap.size + 1, j, none⟩ = (#[.string l.a.ns, .int .i64 l.a.val.kind, .int .i64 l.a.val.int, .string l.a.val.text, .string l.b.ns, .int .i64 l.b.val.kind, .int .i64 l.b.val.int, .string l.b.val.text, .int .i64 l.seq, .bool l.rev] : Array Value)[j]? := fun j => cell_of_row w1 _ j _ _ _ B1.out.2.1
    have y2 : ∀ j, w1.cell? ⟨w.heap.size + 2, j, none⟩ = (#[.int .i64 h.table, .int .i64 h.column, .string h.who.ns, .int .i64 h.who.val.kind, .int .i64 h.who.val.int, .string h.who.val.text, .int .i64 h.seq, .int .i64 h.since, .int .i64 h.till] : Array Value)[j]? := fun j => cell_of_row w1 _ j _ _ _ B1.out.2.2
    go_wp2_with fail
    refine (named_walk l.a _).mono ?_
    rintro e w2 ⟨rfl, hg⟩
    have G2 := hid (grown_trans G1.out hg)
    have B2 := hid (And.intro (row_of hg B1.out.1 (by simp)) (And.intro (row_of hg B1.out.2.1 (by simp)) (row_of hg B1.out.2.2 (by simp))))
    clear y0 y1 y2
    clear hg
    have y0 : ∀ j, w2.cell? ⟨w.heap.size, j, none⟩ = (#[.int .i64 q.kind, .string q.who.ns, .int .i64 q.who.val.kind, .int .i64 q.who.val.int, .string q.who.val.text, .int .i64 q.seq, .int .i64 q.day, .int .i64 q.deadline] : Array Value)[j]? := fun j => cell_of_row w2 _ j _ _ _ B2.out.1
    have y1 : ∀ j, w2.cell? ⟨w.heap.size + 1, j, none⟩ = (#[.string l.a.ns, .int .i64 l.a.val.kind, .int .i64 l.a.val.int, .string l.a.val.text, .string l.b.ns, .int .i64 l.b.val.kind, .int .i64 l.b.val.int, .string l.b.val.text, .int .i64 l.seq, .bool l.rev] : Array Value)[j]? := fun j => cell_of_row w2 _ j _ _ _ B2.out.2.1
    have y2 : ∀ j, w2.cell? ⟨w.heap.size + 2, j, none⟩ = (#[.int .i64 h.table, .int .i64 h.column, .string h.who.ns, .int .i64 h.who.val.kind, .int .i64 h.who.val.int, .string h.who.val.text, .int .i64 h.seq, .int .i64 h.since, .int .i64 h.till] : Array Value)[j]? := fun j => cell_of_row w2 _ j _ _ _ B2.out.2.2
    go_wp2_with (go_at_call 18; refine (awake_walk _).mono ?_; rintro e w' ⟨rfl, hg⟩)
    go_ret
    exact ⟨rfl, grown_trans G2.out hg⟩
  have n1 : l.a.ns.size ≤ 16 := by omega
  have d1 : decide (l.a.ns.size ≤ 16) = true := decide_eq_true n1
  by_cases n2 : ¬ l.b.ns.size ≤ 16
  · have d2 : decide (l.b.ns.size ≤ 16) = false := decide_eq_false n2
    go_enter Try.func14, Try.ntmps14
    go_wp2_with fail
    refine (named_walk q.who _).mono ?_
    rintro e w1 ⟨rfl, hg⟩
    have G1 := hid (grown_trans (grown_trans (grown_trans (World.grownBy_alloc w (.cells #[.int .i64 q.kind, .string q.who.ns, .int .i64 q.who.val.kind, .int .i64 q.who.val.int, .string q.who.val.text, .int .i64 q.seq, .int .i64 q.day, .int .i64 q.deadline] 105) none) (World.grownBy_alloc _ (.cells #[.string l.a.ns, .int .i64 l.a.val.kind, .int .i64 l.a.val.int, .string l.a.val.text, .string l.b.ns, .int .i64 l.b.val.kind, .int .i64 l.b.val.int, .string l.b.val.text, .int .i64 l.seq, .bool l.rev] 107) none)) (World.grownBy_alloc _ (.cells #[.int .i64 h.table, .int .i64 h.column, .string h.who.ns, .int .i64 h.who.val.kind, .int .i64 h.who.val.int, .string h.who.val.text, .int .i64 h.seq, .int .i64 h.since, .int .i64 h.till] 109) none)) hg)
    have B1 := hid (And.intro (row_of hg (row_of (World.grownBy_alloc _ (.cells #[.int .i64 h.table, .int .i64 h.column, .string h.who.ns, .int .i64 h.who.val.kind, .int .i64 h.who.val.int, .string h.who.val.text, .int .i64 h.seq, .int .i64 h.since, .int .i64 h.till] 109) none) (row_of (World.grownBy_alloc _ (.cells #[.string l.a.ns, .int .i64 l.a.val.kind, .int .i64 l.a.val.int, .string l.a.val.text, .string l.b.ns, .int .i64 l.b.val.kind, .int .i64 l.b.val.int, .string l.b.val.text, .int .i64 l.seq, .bool l.rev] 107) none) (heap_at (w := w) (o := (.cells #[.int .i64 q.kind, .string q.who.ns, .int .i64 q.who.val.kind, .int .i64 q.who.val.int, .string q.who.val.text, .int .i64 q.seq, .int .i64 q.day, .int .i64 q.deadline] 105)) rfl) (by simp)) (by simp)) (by simp)) (And.intro (row_of hg (row_of (World.grownBy_alloc _ (.cells #[.int .i64 h.table, .int .i64 h.column, .string h.who.ns, .int .i64 h.who.val.kind, .int .i64 h.who.val.int, .string h.who.val.text, .int .i64 h.seq, .int .i64 h.since, .int .i64 h.till] 109) none) (heap_at (w := w.alloc (.cells #[.int .i64 q.kind, .string q.who.ns, .int .i64 q.who.val.kind, .int .i64 q.who.val.int, .string q.who.val.text, .int .i64 q.seq, .int .i64 q.day, .int .i64 q.deadline] 105)) (o := (.cells #[.string l.a.ns, .int .i64 l.a.val.kind, .int .i64 l.a.val.int, .string l.a.val.text, .string l.b.ns, .int .i64 l.b.val.kind, .int .i64 l.b.val.int, .string l.b.val.text, .int .i64 l.seq, .bool l.rev] 107)) (n := w.heap.size + 1) (by simp)) (by simp)) (by simp)) (row_of hg (heap_at (w := (w.alloc (.cells #[.int .i64 q.kind, .string q.who.ns, .int .i64 q.who.val.kind, .int .i64 q.who.val.int, .string q.who.val.text, .int .i64 q.seq, .int .i64 q.day, .int .i64 q.deadline] 105)).alloc (.cells #[.string l.a.ns, .int .i64 l.a.val.kind, .int .i64 l.a.val.int, .string l.a.val.text, .string l.b.ns, .int .i64 l.b.val.kind, .int .i64 l.b.val.int, .string l.b.val.text, .int .i64 l.seq, .bool l.rev] 107)) (o := (.cells #[.int .i64 h.table, .int .i64 h.column, .string h.who.ns, .int .i64 h.who.val.kind, .int .i64 h.who.val.int, .string h.who.val.text, .int .i64 h.seq, .int .i64 h.since, .int .i64 h.till] 109)) (n := w.heap.size + 2) (by simp)) (by simp))))
    clear hg
    have y0 : ∀ j, w1.cell? ⟨w.heap.size, j, none⟩ = (#[.int .i64 q.kind, .string q.who.ns, .int .i64 q.who.val.kind, .int .i64 q.who.val.int, .string q.who.val.text, .int .i64 q.seq, .int .i64 q.day, .int .i64 q.deadline] : Array Value)[j]? := fun j => cell_of_row w1 _ j _ _ _ B1.out.1
    have y1 : ∀ j, w1.cell? ⟨w.heap.size + 1, j, none⟩ = (#[.string l.a.ns, .int .i64 l.a.val.kind, .int .i64 l.a.val.int, .string l.a.val.text, .string l.b.ns, .int .i64 l.b.val.kind, .int .i64 l.b.val.int, .string l.b.val.text, .int .i64 l.seq, .bool l.rev] : Array Value)[j]? := fun j => cell_of_row w1 _ j _ _ _ B1.out.2.1
    have y2 : ∀ j, w1.cell? ⟨w.heap.size + 2, j, none⟩ = (#[.int .i64 h.table, .int .i64 h.column, .string h.who.ns, .int .i64 h.who.val.kind, .int .i64 h.who.val.int, .string h.who.val.text, .int .i64 h.seq, .int .i64 h.since, .int .i64 h.till] : Array Value)[j]? := fun j => cell_of_row w1 _ j _ _ _ B1.out.2.2
    go_wp2_with fail
    refine (named_walk l.a _).mono ?_
    rintro e w2 ⟨rfl, hg⟩
    have G2 := hid (grown_trans G1.out hg)
    have B2 := hid (And.intro (row_of hg B1.out.1 (by simp)) (And.intro (row_of hg B1.out.2.1 (by simp)) (row_of hg B1.out.2.2 (by simp))))
    clear y0 y1 y2
    clear hg
    have y0 : ∀ j, w2.cell? ⟨w.heap.size, j, none⟩ = (#[.int .i64 q.kind, .string q.who.ns, .int .i64 q.who.val.kind, .int .i64 q.who.val.int, .string q.who.val.text, .int .i64 q.seq, .int .i64 q.day, .int .i64 q.deadline] : Array Value)[j]? := fun j => cell_of_row w2 _ j _ _ _ B2.out.1
    have y1 : ∀ j, w2.cell? ⟨w.heap.size + 1, j, none⟩ = (#[.string l.a.ns, .int .i64 l.a.val.kind, .int .i64 l.a.val.int, .string l.a.val.text, .string l.b.ns, .int .i64 l.b.val.kind, .int .i64 l.b.val.int, .string l.b.val.text, .int .i64 l.seq, .bool l.rev] : Array Value)[j]? := fun j => cell_of_row w2 _ j _ _ _ B2.out.2.1
    have y2 : ∀ j, w2.cell? ⟨w.heap.size + 2, j, none⟩ = (#[.int .i64 h.table, .int .i64 h.column, .string h.who.ns, .int .i64 h.who.val.kind, .int .i64 h.who.val.int, .string h.who.val.text, .int .i64 h.seq, .int .i64 h.since, .int .i64 h.till] : Array Value)[j]? := fun j => cell_of_row w2 _ j _ _ _ B2.out.2.2
    go_wp2_with fail
    refine (named_walk l.b _).mono ?_
    rintro e w3 ⟨rfl, hg⟩
    have G3 := hid (grown_trans G2.out hg)
    have B3 := hid (And.intro (row_of hg B2.out.1 (by simp)) (And.intro (row_of hg B2.out.2.1 (by simp)) (row_of hg B2.out.2.2 (by simp))))
    clear y0 y1 y2
    clear hg
    have y0 : ∀ j, w3.cell? ⟨w.heap.size, j, none⟩ = (#[.int .i64 q.kind, .string q.who.ns, .int .i64 q.who.val.kind, .int .i64 q.who.val.int, .string q.who.val.text, .int .i64 q.seq, .int .i64 q.day, .int .i64 q.deadline] : Array Value)[j]? := fun j => cell_of_row w3 _ j _ _ _ B3.out.1
    have y1 : ∀ j, w3.cell? ⟨w.heap.size + 1, j, none⟩ = (#[.string l.a.ns, .int .i64 l.a.val.kind, .int .i64 l.a.val.int, .string l.a.val.text, .string l.b.ns, .int .i64 l.b.val.kind, .int .i64 l.b.val.int, .string l.b.val.text, .int .i64 l.seq, .bool l.rev] : Array Value)[j]? := fun j => cell_of_row w3 _ j _ _ _ B3.out.2.1
    have y2 : ∀ j, w3.cell? ⟨w.heap.size + 2, j, none⟩ = (#[.int .i64 h.table, .int .i64 h.column, .string h.who.ns, .int .i64 h.who.val.kind, .int .i64 h.who.val.int, .string h.who.val.text, .int .i64 h.seq, .int .i64 h.since, .int .i64 h.till] : Array Value)[j]? := fun j => cell_of_row w3 _ j _ _ _ B3.out.2.2
    go_wp2_with (go_at_call 18; refine (awake_walk _).mono ?_; rintro e w' ⟨rfl, hg⟩)
    go_ret
    exact ⟨rfl, grown_trans G3.out hg⟩
  have n2 : l.b.ns.size ≤ 16 := by omega
  have d2 : decide (l.b.ns.size ≤ 16) = true := decide_eq_true n2
  by_cases n3 : ¬ h.who.ns.size ≤ 16
  · have d3 : decide (h.who.ns.size ≤ 16) = false := decide_eq_false n3
    go_enter Try.func14, Try.ntmps14
    go_wp2_with fail
    refine (named_walk q.who _).mono ?_
    rintro e w1 ⟨rfl, hg⟩
    have G1 := hid (grown_trans (grown_trans (grown_trans (World.grownBy_alloc w (.cells #[.int .i64 q.kind, .string q.who.ns, .int .i64 q.who.val.kind, .int .i64 q.who.val.int, .string q.who.val.text, .int .i64 q.seq, .int .i64 q.day, .int .i64 q.deadline] 105) none) (World.grownBy_alloc _ (.cells #[.string l.a.ns, .int .i64 l.a.val.kind, .int .i64 l.a.val.int, .string l.a.val.text, .string l.b.ns, .int .i64 l.b.val.kind, .int .i64 l.b.val.int, .string l.b.val.text, .int .i64 l.seq, .bool l.rev] 107) none)) (World.grownBy_alloc _ (.cells #[.int .i64 h.table, .int .i64 h.column, .string h.who.ns, .int .i64 h.who.val.kind, .int .i64 h.who.val.int, .string h.who.val.text, .int .i64 h.seq, .int .i64 h.since, .int .i64 h.till] 109) none)) hg)
    have B1 := hid (And.intro (row_of hg (row_of (World.grownBy_alloc _ (.cells #[.int .i64 h.table, .int .i64 h.column, .string h.who.ns, .int .i64 h.who.val.kind, .int .i64 h.who.val.int, .string h.who.val.text, .int .i64 h.seq, .int .i64 h.since, .int .i64 h.till] 109) none) (row_of (World.grownBy_alloc _ (.cells #[.string l.a.ns, .int .i64 l.a.val.kind, .int .i64 l.a.val.int, .string l.a.val.text, .string l.b.ns, .int .i64 l.b.val.kind, .int .i64 l.b.val.int, .string l.b.val.text, .int .i64 l.seq, .bool l.rev] 107) none) (heap_at (w := w) (o := (.cells #[.int .i64 q.kind, .string q.who.ns, .int .i64 q.who.val.kind, .int .i64 q.who.val.int, .string q.who.val.text, .int .i64 q.seq, .int .i64 q.day, .int .i64 q.deadline] 105)) rfl) (by simp)) (by simp)) (by simp)) (And.intro (row_of hg (row_of (World.grownBy_alloc _ (.cells #[.int .i64 h.table, .int .i64 h.column, .string h.who.ns, .int .i64 h.who.val.kind, .int .i64 h.who.val.int, .string h.who.val.text, .int .i64 h.seq, .int .i64 h.since, .int .i64 h.till] 109) none) (heap_at (w := w.alloc (.cells #[.int .i64 q.kind, .string q.who.ns, .int .i64 q.who.val.kind, .int .i64 q.who.val.int, .string q.who.val.text, .int .i64 q.seq, .int .i64 q.day, .int .i64 q.deadline] 105)) (o := (.cells #[.string l.a.ns, .int .i64 l.a.val.kind, .int .i64 l.a.val.int, .string l.a.val.text, .string l.b.ns, .int .i64 l.b.val.kind, .int .i64 l.b.val.int, .string l.b.val.text, .int .i64 l.seq, .bool l.rev] 107)) (n := w.heap.size + 1) (by simp)) (by simp)) (by simp)) (row_of hg (heap_at (w := (w.alloc (.cells #[.int .i64 q.kind, .string q.who.ns, .int .i64 q.who.val.kind, .int .i64 q.who.val.int, .string q.who.val.text, .int .i64 q.seq, .int .i64 q.day, .int .i64 q.deadline] 105)).alloc (.cells #[.string l.a.ns, .int .i64 l.a.val.kind, .int .i64 l.a.val.int, .string l.a.val.text, .string l.b.ns, .int .i64 l.b.val.kind, .int .i64 l.b.val.int, .string l.b.val.text, .int .i64 l.seq, .bool l.rev] 107)) (o := (.cells #[.int .i64 h.table, .int .i64 h.column, .string h.who.ns, .int .i64 h.who.val.kind, .int .i64 h.who.val.int, .string h.who.val.text, .int .i64 h.seq, .int .i64 h.since, .int .i64 h.till] 109)) (n := w.heap.size + 2) (by simp)) (by simp))))
    clear hg
    have y0 : ∀ j, w1.cell? ⟨w.heap.size, j, none⟩ = (#[.int .i64 q.kind, .string q.who.ns, .int .i64 q.who.val.kind, .int .i64 q.who.val.int, .string q.who.val.text, .int .i64 q.seq, .int .i64 q.day, .int .i64 q.deadline] : Array Value)[j]? := fun j => cell_of_row w1 _ j _ _ _ B1.out.1
    have y1 : ∀ j, w1.cell? ⟨w.heap.size + 1, j, none⟩ = (#[.string l.a.ns, .int .i64 l.a.val.kind, .int .i64 l.a.val.int, .string l.a.val.text, .string l.b.ns, .int .i64 l.b.val.kind, .int .i64 l.b.val.int, .string l.b.val.text, .int .i64 l.seq, .bool l.rev] : Array Value)[j]? := fun j => cell_of_row w1 _ j _ _ _ B1.out.2.1
    have y2 : ∀ j, w1.cell? ⟨w.heap.size + 2, j, none⟩ = (#[.int .i64 h.table, .int .i64 h.column, .string h.who.ns, .int .i64 h.who.val.kind, .int .i64 h.who.val.int, .string h.who.val.text, .int .i64 h.seq, .int .i64 h.since, .int .i64 h.till] : Array Value)[j]? := fun j => cell_of_row w1 _ j _ _ _ B1.out.2.2
    go_wp2_with fail
    refine (named_walk l.a _).mono ?_
    rintro e w2 ⟨rfl, hg⟩
    have G2 := hid (grown_trans G1.out hg)
    have B2 := hid (And.intro (row_of hg B1.out.1 (by simp)) (And.intro (row_of hg B1.out.2.1 (by simp)) (row_of hg B1.out.2.2 (by simp))))
    clear y0 y1 y2
    clear hg
    have y0 : ∀ j, w2.cell? ⟨w.heap.size, j, none⟩ = (#[.int .i64 q.kind, .string q.who.ns, .int .i64 q.who.val.kind, .int .i64 q.who.val.int, .string q.who.val.text, .int .i64 q.seq, .int .i64 q.day, .int .i64 q.deadline] : Array Value)[j]? := fun j => cell_of_row w2 _ j _ _ _ B2.out.1
    have y1 : ∀ j, w2.cell? ⟨w.heap.size + 1, j, none⟩ = (#[.string l.a.ns, .int .i64 l.a.val.kind, .int .i64 l.a.val.int, .string l.a.val.text, .string l.b.ns, .int .i64 l.b.val.kind, .int .i64 l.b.val.int, .string l.b.val.text, .int .i64 l.seq, .bool l.rev] : Array Value)[j]? := fun j => cell_of_row w2 _ j _ _ _ B2.out.2.1
    have y2 : ∀ j, w2.cell? ⟨w.heap.size + 2, j, none⟩ = (#[.int .i64 h.table, .int .i64 h.column, .string h.who.ns, .int .i64 h.who.val.kind, .int .i64 h.who.val.int, .string h.who.val.text, .int .i64 h.seq, .int .i64 h.since, .int .i64 h.till] : Array Value)[j]? := fun j => cell_of_row w2 _ j _ _ _ B2.out.2.2
    go_wp2_with fail
    refine (named_walk l.b _).mono ?_
    rintro e w3 ⟨rfl, hg⟩
    have G3 := hid (grown_trans G2.out hg)
    have B3 := hid (And.intro (row_of hg B2.out.1 (by simp)) (And.intro (row_of hg B2.out.2.1 (by simp)) (row_of hg B2.out.2.2 (by simp))))
    clear y0 y1 y2
    clear hg
    have y0 : ∀ j, w3.cell? ⟨w.heap.size, j, none⟩ = (#[.int .i64 q.kind, .string q.who.ns, .int .i64 q.who.val.kind, .int .i64 q.who.val.int, .string q.who.val.text, .int .i64 q.seq, .int .i64 q.day, .int .i64 q.deadline] : Array Value)[j]? := fun j => cell_of_row w3 _ j _ _ _ B3.out.1
    have y1 : ∀ j, w3.cell? ⟨w.heap.size + 1, j, none⟩ = (#[.string l.a.ns, .int .i64 l.a.val.kind, .int .i64 l.a.val.int, .string l.a.val.text, .string l.b.ns, .int .i64 l.b.val.kind, .int .i64 l.b.val.int, .string l.b.val.text, .int .i64 l.seq, .bool l.rev] : Array Value)[j]? := fun j => cell_of_row w3 _ j _ _ _ B3.out.2.1
    have y2 : ∀ j, w3.cell? ⟨w.heap.size + 2, j, none⟩ = (#[.int .i64 h.table, .int .i64 h.column, .string h.who.ns, .int .i64 h.who.val.kind, .int .i64 h.who.val.int, .string h.who.val.text, .int .i64 h.seq, .int .i64 h.since, .int .i64 h.till] : Array Value)[j]? := fun j => cell_of_row w3 _ j _ _ _ B3.out.2.2
    go_wp2_with fail
    refine (named_walk h.who _).mono ?_
    rintro e w4 ⟨rfl, hg⟩
    have G4 := hid (grown_trans G3.out hg)
    have B4 := hid (And.intro (row_of hg B3.out.1 (by simp)) (And.intro (row_of hg B3.out.2.1 (by simp)) (row_of hg B3.out.2.2 (by simp))))
    clear y0 y1 y2
    clear hg
    have y0 : ∀ j, w4.cell? ⟨w.heap.size, j, none⟩ = (#[.int .i64 q.kind, .string q.who.ns, .int .i64 q.who.val.kind, .int .i64 q.who.val.int, .string q.who.val.text, .int .i64 q.seq, .int .i64 q.day, .int .i64 q.deadline] : Array Value)[j]? := fun j => cell_of_row w4 _ j _ _ _ B4.out.1
    have y1 : ∀ j, w4.cell? ⟨w.heap.size + 1, j, none⟩ = (#[.string l.a.ns, .int .i64 l.a.val.kind, .int .i64 l.a.val.int, .string l.a.val.text, .string l.b.ns, .int .i64 l.b.val.kind, .int .i64 l.b.val.int, .string l.b.val.text, .int .i64 l.seq, .bool l.rev] : Array Value)[j]? := fun j => cell_of_row w4 _ j _ _ _ B4.out.2.1
    have y2 : ∀ j, w4.cell? ⟨w.heap.size + 2, j, none⟩ = (#[.int .i64 h.table, .int .i64 h.column, .string h.who.ns, .int .i64 h.who.val.kind, .int .i64 h.who.val.int, .string h.who.val.text, .int .i64 h.seq, .int .i64 h.since, .int .i64 h.till] : Array Value)[j]? := fun j => cell_of_row w4 _ j _ _ _ B4.out.2.2
    go_wp2_with (go_at_call 18; refine (awake_walk _).mono ?_; rintro e w' ⟨rfl, hg⟩)
    go_ret
    exact ⟨rfl, grown_trans G4.out hg⟩
  have n3 : h.who.ns.size ≤ 16 := by omega
  have d3 : decide (h.who.ns.size ≤ 16) = true := decide_eq_true n3
  have hbl := And.intro (encReq_len q HQ.out (by omega)) (And.intro (encLnk_len l HL.out ⟨by omega, by omega⟩) (encHld_len h HH.out (by omega)))
  have HB := hid hbl
  clear hbl
  go_enter Try.func14, Try.ntmps14
  go_wp2_with fail
  refine (named_walk q.who _).mono ?_
  rintro e w1 ⟨rfl, hg⟩
  have G1 := hid (grown_trans (grown_trans (grown_trans (World.grownBy_alloc w (.cells #[.int .i64 q.kind, .string q.who.ns, .int .i64 q.who.val.kind, .int .i64 q.who.val.int, .string q.who.val.text, .int .i64 q.seq, .int .i64 q.day, .int .i64 q.deadline] 105) none) (World.grownBy_alloc _ (.cells #[.string l.a.ns, .int .i64 l.a.val.kind, .int .i64 l.a.val.int, .string l.a.val.text, .string l.b.ns, .int .i64 l.b.val.kind, .int .i64 l.b.val.int, .string l.b.val.text, .int .i64 l.seq, .bool l.rev] 107) none)) (World.grownBy_alloc _ (.cells #[.int .i64 h.table, .int .i64 h.column, .string h.who.ns, .int .i64 h.who.val.kind, .int .i64 h.who.val.int, .string h.who.val.text, .int .i64 h.seq, .int .i64 h.since, .int .i64 h.till] 109) none)) hg)
  have B1 := hid (And.intro (row_of hg (row_of (World.grownBy_alloc _ (.cells #[.int .i64 h.table, .int .i64 h.column, .string h.who.ns, .int .i64 h.who.val.kind, .int .i64 h.who.val.int, .string h.who.val.text, .int .i64 h.seq, .int .i64 h.since, .int .i64 h.till] 109) none) (row_of (World.grownBy_alloc _ (.cells #[.string l.a.ns, .int .i64 l.a.val.kind, .int .i64 l.a.val.int, .string l.a.val.text, .string l.b.ns, .int .i64 l.b.val.kind, .int .i64 l.b.val.int, .string l.b.val.text, .int .i64 l.seq, .bool l.rev] 107) none) (heap_at (w := w) (o := (.cells #[.int .i64 q.kind, .string q.who.ns, .int .i64 q.who.val.kind, .int .i64 q.who.val.int, .string q.who.val.text, .int .i64 q.seq, .int .i64 q.day, .int .i64 q.deadline] 105)) rfl) (by simp)) (by simp)) (by simp)) (And.intro (row_of hg (row_of (World.grownBy_alloc _ (.cells #[.int .i64 h.table, .int .i64 h.column, .string h.who.ns, .int .i64 h.who.val.kind, .int .i64 h.who.val.int, .string h.who.val.text, .int .i64 h.seq, .int .i64 h.since, .int .i64 h.till] 109) none) (heap_at (w := w.alloc (.cells #[.int .i64 q.kind, .string q.who.ns, .int .i64 q.who.val.kind, .int .i64 q.who.val.int, .string q.who.val.text, .int .i64 q.seq, .int .i64 q.day, .int .i64 q.deadline] 105)) (o := (.cells #[.string l.a.ns, .int .i64 l.a.val.kind, .int .i64 l.a.val.int, .string l.a.val.text, .string l.b.ns, .int .i64 l.b.val.kind, .int .i64 l.b.val.int, .string l.b.val.text, .int .i64 l.seq, .bool l.rev] 107)) (n := w.heap.size + 1) (by simp)) (by simp)) (by simp)) (row_of hg (heap_at (w := (w.alloc (.cells #[.int .i64 q.kind, .string q.who.ns, .int .i64 q.who.val.kind, .int .i64 q.who.val.int, .string q.who.val.text, .int .i64 q.seq, .int .i64 q.day, .int .i64 q.deadline] 105)).alloc (.cells #[.string l.a.ns, .int .i64 l.a.val.kind, .int .i64 l.a.val.int, .string l.a.val.text, .string l.b.ns, .int .i64 l.b.val.kind, .int .i64 l.b.val.int, .string l.b.val.text, .int .i64 l.seq, .bool l.rev] 107)) (o := (.cells #[.int .i64 h.table, .int .i64 h.column, .string h.who.ns, .int .i64 h.who.val.kind, .int .i64 h.who.val.int, .string h.who.val.text, .int .i64 h.seq, .int .i64 h.since, .int .i64 h.till] 109)) (n := w.heap.size + 2) (by simp)) (by simp))))
  clear hg
  have y0 : ∀ j, w1.cell? ⟨w.heap.size, j, none⟩ = (#[.int .i64 q.kind, .string q.who.ns, .int .i64 q.who.val.kind, .int .i64 q.who.val.int, .string q.who.val.text, .int .i64 q.seq, .int .i64 q.day, .int .i64 q.deadline] : Array Value)[j]? := fun j => cell_of_row w1 _ j _ _ _ B1.out.1
  have y1 : ∀ j, w1.cell? ⟨w.heap.size + 1, j, none⟩ = (#[.string l.a.ns, .int .i64 l.a.val.kind, .int .i64 l.a.val.int, .string l.a.val.text, .string l.b.ns, .int .i64 l.b.val.kind, .int .i64 l.b.val.int, .string l.b.val.text, .int .i64 l.seq, .bool l.rev] : Array Value)[j]? := fun j => cell_of_row w1 _ j _ _ _ B1.out.2.1
  have y2 : ∀ j, w1.cell? ⟨w.heap.size + 2, j, none⟩ = (#[.int .i64 h.table, .int .i64 h.column, .string h.who.ns, .int .i64 h.who.val.kind, .int .i64 h.who.val.int, .string h.who.val.text, .int .i64 h.seq, .int .i64 h.since, .int .i64 h.till] : Array Value)[j]? := fun j => cell_of_row w1 _ j _ _ _ B1.out.2.2
  go_wp2_with fail
  refine (named_walk l.a _).mono ?_
  rintro e w2 ⟨rfl, hg⟩
  have G2 := hid (grown_trans G1.out hg)
  have B2 := hid (And.intro (row_of hg B1.out.1 (by simp)) (And.intro (row_of hg B1.out.2.1 (by simp)) (row_of hg B1.out.2.2 (by simp))))
  clear y0 y1 y2
  clear hg
  have y0 : ∀ j, w2.cell? ⟨w.heap.size, j, none⟩ = (#[.int .i64 q.kind, .string q.who.ns, .int .i64 q.who.val.kind, .int .i64 q.who.val.int, .string q.who.val.text, .int .i64 q.seq, .int .i64 q.day, .int .i64 q.deadline] : Array Value)[j]? := fun j => cell_of_row w2 _ j _ _ _ B2.out.1
  have y1 : ∀ j, w2.cell? ⟨w.heap.size + 1, j, none⟩ = (#[.string l.a.ns, .int .i64 l.a.val.kind, .int .i64 l.a.val.int, .string l.a.val.text, .string l.b.ns, .int .i64 l.b.val.kind, .int .i64 l.b.val.int, .string l.b.val.text, .int .i64 l.seq, .bool l.rev] : Array Value)[j]? := fun j => cell_of_row w2 _ j _ _ _ B2.out.2.1
  have y2 : ∀ j, w2.cell? ⟨w.heap.size + 2, j, none⟩ = (#[.int .i64 h.table, .int .i64 h.column, .string h.who.ns, .int .i64 h.who.val.kind, .int .i64 h.who.val.int, .string h.who.val.text, .int .i64 h.seq, .int .i64 h.since, .int .i64 h.till] : Array Value)[j]? := fun j => cell_of_row w2 _ j _ _ _ B2.out.2.2
  go_wp2_with fail
  refine (named_walk l.b _).mono ?_
  rintro e w3 ⟨rfl, hg⟩
  have G3 := hid (grown_trans G2.out hg)
  have B3 := hid (And.intro (row_of hg B2.out.1 (by simp)) (And.intro (row_of hg B2.out.2.1 (by simp)) (row_of hg B2.out.2.2 (by simp))))
  clear y0 y1 y2
  clear hg
  have y0 : ∀ j, w3.cell? ⟨w.heap.size, j, none⟩ = (#[.int .i64 q.kind, .string q.who.ns, .int .i64 q.who.val.kind, .int .i64 q.who.val.int, .string q.who.val.text, .int .i64 q.seq, .int .i64 q.day, .int .i64 q.deadline] : Array Value)[j]? := fun j => cell_of_row w3 _ j _ _ _ B3.out.1
  have y1 : ∀ j, w3.cell? ⟨w.heap.size + 1, j, none⟩ = (#[.string l.a.ns, .int .i64 l.a.val.kind, .int .i64 l.a.val.int, .string l.a.val.text, .string l.b.ns, .int .i64 l.b.val.kind, .int .i64 l.b.val.int, .string l.b.val.text, .int .i64 l.seq, .bool l.rev] : Array Value)[j]? := fun j => cell_of_row w3 _ j _ _ _ B3.out.2.1
  have y2 : ∀ j, w3.cell? ⟨w.heap.size + 2, j, none⟩ = (#[.int .i64 h.table, .int .i64 h.column, .string h.who.ns, .int .i64 h.who.val.kind, .int .i64 h.who.val.int, .string h.who.val.text, .int .i64 h.seq, .int .i64 h.since, .int .i64 h.till] : Array Value)[j]? := fun j => cell_of_row w3 _ j _ _ _ B3.out.2.2
  go_wp2_with fail
  refine (named_walk h.who _).mono ?_
  rintro e w4 ⟨rfl, hg⟩
  have G4 := hid (grown_trans G3.out hg)
  have B4 := hid (And.intro (row_of hg B3.out.1 (by simp)) (And.intro (row_of hg B3.out.2.1 (by simp)) (row_of hg B3.out.2.2 (by simp))))
  clear y0 y1 y2
  clear hg
  have y0 : ∀ j, w4.cell? ⟨w.heap.size, j, none⟩ = (#[.int .i64 q.kind, .string q.who.ns, .int .i64 q.who.val.kind, .int .i64 q.who.val.int, .string q.who.val.text, .int .i64 q.seq, .int .i64 q.day, .int .i64 q.deadline] : Array Value)[j]? := fun j => cell_of_row w4 _ j _ _ _ B4.out.1
  have y1 : ∀ j, w4.cell? ⟨w.heap.size + 1, j, none⟩ = (#[.string l.a.ns, .int .i64 l.a.val.kind, .int .i64 l.a.val.int, .string l.a.val.text, .string l.b.ns, .int .i64 l.b.val.kind, .int .i64 l.b.val.int, .string l.b.val.text, .int .i64 l.seq, .bool l.rev] : Array Value)[j]? := fun j => cell_of_row w4 _ j _ _ _ B4.out.2.1
  have y2 : ∀ j, w4.cell? ⟨w.heap.size + 2, j, none⟩ = (#[.int .i64 h.table, .int .i64 h.column, .string h.who.ns, .int .i64 h.who.val.kind, .int .i64 h.who.val.int, .string h.who.val.text, .int .i64 h.seq, .int .i64 h.since, .int .i64 h.till] : Array Value)[j]? := fun j => cell_of_row w4 _ j _ _ _ B4.out.2.2
  go_wp2_with fail
  refine (appendRequest_walk nilS q ([]) w4 (Sl.nil _ _) (fun k hk => by simp [Value.ownBlock] at hk) HQ.out (by omega) (by simp)).mono ?_
  rintro e w5 ⟨v5, rfl, hown, hf⟩
  have O5 : Hid (Own w5 5 1 v5 (encReq q).length (bv (encReq q))) := hid hown
  have g := Step.none hf
  have G5 := hid (grown_trans G4.out g)
  have B5 := hid (And.intro (row_of g B4.out.1 (by simp)) (And.intro (row_of g B4.out.2.1 (by simp)) (row_of g B4.out.2.2 (by simp))))
  clear y0 y1 y2 hown hf g
  have y0 : ∀ j, w5.cell? ⟨w.heap.size, j, none⟩ = (#[.int .i64 q.kind, .string q.who.ns, .int .i64 q.who.val.kind, .int .i64 q.who.val.int, .string q.who.val.text, .int .i64 q.seq, .int .i64 q.day, .int .i64 q.deadline] : Array Value)[j]? := fun j => cell_of_row w5 _ j _ _ _ B5.out.1
  have y1 : ∀ j, w5.cell? ⟨w.heap.size + 1, j, none⟩ = (#[.string l.a.ns, .int .i64 l.a.val.kind, .int .i64 l.a.val.int, .string l.a.val.text, .string l.b.ns, .int .i64 l.b.val.kind, .int .i64 l.b.val.int, .string l.b.val.text, .int .i64 l.seq, .bool l.rev] : Array Value)[j]? := fun j => cell_of_row w5 _ j _ _ _ B5.out.2.1
  have y2 : ∀ j, w5.cell? ⟨w.heap.size + 2, j, none⟩ = (#[.int .i64 h.table, .int .i64 h.column, .string h.who.ns, .int .i64 h.who.val.kind, .int .i64 h.who.val.int, .string h.who.val.text, .int .i64 h.seq, .int .i64 h.since, .int .i64 h.till] : Array Value)[j]? := fun j => cell_of_row w5 _ j _ _ _ B5.out.2.2
  go_wp2_with fail
  refine (appendLink_walk v5 l (encReq q) w5 (Sl.of_own O5.out) (fun k hk => Own.lt O5.out k hk) HL.out ⟨by omega, by omega⟩ (by have := HB.out; omega)).mono ?_
  rintro e w6 ⟨v6, rfl, hown, hf⟩
  have O6 : Hid (Own w6 5 1 v6 (encReq q ++ encLnk l).length (bv (encReq q ++ encLnk l))) := hid hown
  have g := Step.none hf
  have G6 := hid (grown_trans G5.out g)
  have B6 := hid (And.intro (row_of g B5.out.1 (by simp)) (And.intro (row_of g B5.out.2.1 (by simp)) (row_of g B5.out.2.2 (by simp))))
  clear y0 y1 y2 hown hf g
  have y0 : ∀ j, w6.cell? ⟨w.heap.size, j, none⟩ = (#[.int .i64 q.kind, .string q.who.ns, .int .i64 q.who.val.kind, .int .i64 q.who.val.int, .string q.who.val.text, .int .i64 q.seq, .int .i64 q.day, .int .i64 q.deadline] : Array Value)[j]? := fun j => cell_of_row w6 _ j _ _ _ B6.out.1
  have y1 : ∀ j, w6.cell? ⟨w.heap.size + 1, j, none⟩ = (#[.string l.a.ns, .int .i64 l.a.val.kind, .int .i64 l.a.val.int, .string l.a.val.text, .string l.b.ns, .int .i64 l.b.val.kind, .int .i64 l.b.val.int, .string l.b.val.text, .int .i64 l.seq, .bool l.rev] : Array Value)[j]? := fun j => cell_of_row w6 _ j _ _ _ B6.out.2.1
  have y2 : ∀ j, w6.cell? ⟨w.heap.size + 2, j, none⟩ = (#[.int .i64 h.table, .int .i64 h.column, .string h.who.ns, .int .i64 h.who.val.kind, .int .i64 h.who.val.int, .string h.who.val.text, .int .i64 h.seq, .int .i64 h.since, .int .i64 h.till] : Array Value)[j]? := fun j => cell_of_row w6 _ j _ _ _ B6.out.2.2
  go_wp2_with fail
  refine (appendHold_walk v6 h (encReq q ++ encLnk l) w6 (Sl.of_own O6.out) (fun k hk => Own.lt O6.out k hk) HH.out (by omega) (by have := HB.out; rw [List.length_append]; omega)).mono ?_
  rintro e w7 ⟨v7, rfl, hown, hf⟩
  have O7 : Hid (Own w7 5 1 v7 (encReq q ++ encLnk l ++ encHld h).length (bv (encReq q ++ encLnk l ++ encHld h))) := hid hown
  have g := Step.none hf
  have G7 := hid (grown_trans G6.out g)
  have B7 := hid (And.intro (row_of g B6.out.1 (by simp)) (And.intro (row_of g B6.out.2.1 (by simp)) (row_of g B6.out.2.2 (by simp))))
  clear y0 y1 y2 hown hf g
  have y0 : ∀ j, w7.cell? ⟨w.heap.size, j, none⟩ = (#[.int .i64 q.kind, .string q.who.ns, .int .i64 q.who.val.kind, .int .i64 q.who.val.int, .string q.who.val.text, .int .i64 q.seq, .int .i64 q.day, .int .i64 q.deadline] : Array Value)[j]? := fun j => cell_of_row w7 _ j _ _ _ B7.out.1
  have y1 : ∀ j, w7.cell? ⟨w.heap.size + 1, j, none⟩ = (#[.string l.a.ns, .int .i64 l.a.val.kind, .int .i64 l.a.val.int, .string l.a.val.text, .string l.b.ns, .int .i64 l.b.val.kind, .int .i64 l.b.val.int, .string l.b.val.text, .int .i64 l.seq, .bool l.rev] : Array Value)[j]? := fun j => cell_of_row w7 _ j _ _ _ B7.out.2.1
  have y2 : ∀ j, w7.cell? ⟨w.heap.size + 2, j, none⟩ = (#[.int .i64 h.table, .int .i64 h.column, .string h.who.ns, .int .i64 h.who.val.kind, .int .i64 h.who.val.int, .string h.who.val.text, .int .i64 h.seq, .int .i64 h.since, .int .i64 h.till] : Array Value)[j]? := fun j => cell_of_row w7 _ j _ _ _ B7.out.2.2
  clear y0 y1 y2
  go_wp2_with fail
  have h9 := Sl.of_own O7.out
  refine region_listF mixed (c14vL q l h w.heap.size (w.heap.size + 1) (w.heap.size + 2)) _ (c14v_reg _) (c14v_m _) ?_ ?_ (c14v_ob _ q l h w.heap.size (w.heap.size + 1) (w.heap.size + 2) _ B7.out.1 B7.out.2.1 B7.out.2.2 ⟨HQ.out, by assumption⟩ ⟨HL.out, by assumption, by assumption⟩ ⟨HH.out, by assumption⟩ HB.out) ?_
  · rfl
  · exact ⟨.inr trivial, .inr trivial, .inr trivial, .inr rfl, .inr rfl, .inr rfl, .inr trivial, .inr trivial, .inr trivial, .inr h9, .inr trivial, .inr trivial, .inr trivial, .inr trivial, .inr trivial, .inr trivial, .inr trivial, .inr trivial, .inr trivial, .inr trivial, .inr trivial, .inr trivial, .inr trivial, .inr trivial, .inr trivial, .inr trivial, .inr trivial, .inr trivial, .inr trivial, .inr trivial, .inr trivial, .inr trivial, .inr trivial, .inr trivial, .inr trivial, .inr trivial, .inr trivial, .inr trivial, .inr trivial, .inr trivial, .inr trivial, .inr trivial, .inr trivial, .inr trivial, .inr trivial, .inr trivial, .inr trivial, .inr trivial, .inr trivial, .inr trivial, .inr trivial, .inr trivial, .inr trivial, .inl rfl, .inl rfl, .inl rfl, .inl rfl, .inl rfl, .inl rfl, .inl rfl, .inl rfl, .inl rfl, .inl rfl, .inl rfl, .inl rfl, .inl rfl, .inl rfl, .inr trivial, .inr trivial, .inr trivial, .inr trivial, .inr trivial, .inr trivial, .inr trivial, .inr trivial, .inr trivial, .inr trivial, .inr trivial, .inr trivial, .inr trivial, .inr trivial, .inr trivial, .inr trivial, .inr trivial, .inr trivial, .inr trivial, .inr trivial, .inr trivial, .inr trivial, .inr trivial, .inr trivial, .inr trivial, .inr trivial, .inr trivial, .inr trivial, .inr trivial, .inr trivial, .inr trivial, .inr trivial, .inr trivial, .inr trivial, .inr trivial, .inr trivial, .inr trivial, .inr trivial, .inr trivial, .inr trivial, .inr trivial, .inr trivial, .inr trivial, .inr trivial, .inr trivial, .inr trivial, .inr trivial, .inr trivial, .inr trivial, .inr trivial, .inr trivial, .inr trivial, .inr trivial, .inr trivial, .inr trivial, .inr trivial, .inr trivial, .inr trivial, .inr trivial, .inr trivial, .inr trivial, .inr trivial, .inr trivial, .inr trivial, .inr trivial, .inr trivial, .inr trivial, .inr trivial, .inr trivial, .inr trivial, .inr trivial, .inr trivial, .inr trivial, .inr trivial, .inr trivial, .inr trivial, .inr trivial, .inr trivial, .inr trivial, .inr trivial, .inr trivial, .inr trivial, .inr trivial, .inr trivial, .inr trivial, .inr trivial, .inr trivial, .inr trivial, .inr trivial, .inr trivial, .inr trivial, .inr trivial, trivial⟩
  intro x8 w8 hg8 hk8
  simp only [frameOf, Bool.false_eq_true, if_false, if_true]
  have h66 : x8 66 = .bool false := hk8 66 (by show 66 < 159; decide)
  rw [h66]
  have G8 := hid (grown_trans G7.out hg8)
  have B8 := hid (And.intro (row_of hg8 B7.out.1 (by simp)) (And.intro (row_of hg8 B7.out.2.1 (by simp)) (row_of hg8 B7.out.2.2 (by simp))))
  have O8 := hid (O7.out.kn hg8)
  clear h66 hk8 hg8 h9
  obtain ⟨RR9, hRR9⟩ : ∃ X : List Nat, X = encLnk l ++ encHld h := ⟨_, rfl⟩
  have HRR9 := hid hRR9
  clear hRR9
  go_wp2_with fail
  refine (rdxRequest_walk _ (encReq q ++ encLnk l ++ encHld h) w8 (Sl.of_own O8.out) (by have := HB.out; simp only [List.length_append]; omega) (app_byte (app_byte (encReq_byte q) (encLnk_byte l)) (encHld_byte h)) (fun k hk => Own.lt O8.out k hk)).mono ?_
  intro e w9 hh
  obtain ⟨gg, mm, rv9, rfl, hrep, hs, hlo⟩ := hh.ok (show pReq (encReq q ++ encLnk l ++ encHld h) = .ok (q.clean, RR9) by rw [HRR9.out]; have := (cd_req q (by omega) HQ.out).rt (encLnk l ++ encHld h); rwa [← List.append_assoc] at this)
  obtain ⟨ao9, cap9, rfl, _, _⟩ := hs.shape
  have hrep' : mm = valReq (q.clean) := hrep
  subst hrep'
  have S9 := hid hs
  have GG9 := hid gg
  have LO9 := hid hlo
  clear hh gg hrep hs hlo
  go_wp2_with (first | (refine wpList_storeTYg rfl 105 (.tmp 10) (.tmp 70) rfl rfl rfl (tyReq (q.clean)) (heap_at rfl) rfl ?_; intro w10 hg hb; have GN10 := hid (grown_newR (World.grownBy_alloc w9 _ none) hg (Nat.le_refl _)); have C10 := hid hb; clear hg hb) | fail)
  have gs10 := grown_trans GG9.out GN10.out
  have GS10 := hid gs10
  have G10 := hid (grown_trans G8.out gs10)
  have B10 := hid (And.intro (row_of gs10 B8.out.1 (by simp)) (And.intro (row_of gs10 B8.out.2.1 (by simp)) (row_of gs10 B8.out.2.2 (by simp))))
  clear gs10
  go_wp2_with fail
  refine (rdxLink_walk _ (RR9) w10 (S9.out.kn GN10.out) (by have := HB.out; rw [HRR9.out, List.length_append]; omega) (by rw [HRR9.out]; exact app_byte (encLnk_byte l) (encHld_byte h)) (Sl.lo_pos (S9.out.kn GN10.out) (by have := encLnk_pos l; rw [HRR9.out, List.length_append]; omega))).mono ?_
  intro e w11 hh
  obtain ⟨gg, mm, rv11, rfl, hrep, hs, hlo⟩ := hh.ok (show pLnk (RR9) = .ok (l.clean, encHld h) by rw [HRR9.out]; exact (cd_lnk l (by omega) (by omega) HL.out).rt (encHld h))
  obtain ⟨ao11, cap11, rfl, _, _⟩ := hs.shape
  have hrep' : mm = valLnk (l.clean) := hrep
  subst hrep'
  have S11 := hid hs
  have GG11 := hid gg
  have LO11 := hid hlo
  clear hh gg hrep hs hlo
  go_wp2_with (first | (refine wpList_storeTYg rfl 107 (.tmp 13) (.tmp 76) rfl rfl rfl (tyLnk (l.clean)) (heap_at rfl) rfl ?_; intro w12 hg hb; have GN12 := hid (grown_newR (World.grownBy_alloc w11 _ none) hg (Nat.le_refl _)); have C12 := hid hb; clear hg hb) | fail)
  have gs12 := grown_trans GG11.out GN12.out
  have GS12 := hid gs12
  have G12 := hid (grown_trans G10.out gs12)
  have B12 := hid (And.intro (row_of gs12 B10.out.1 (by simp)) (And.intro (row_of gs12 B10.out.2.1 (by simp)) (row_of gs12 B10.out.2.2 (by simp))))
  clear gs12
  go_wp2_with fail
  refine (rdxHold_walk _ (encHld h) w12 (S11.out.kn GN12.out) (by have := HB.out; omega) (encHld_byte h) (Sl.lo_pos (S11.out.kn GN12.out) (encHld_pos h))).mono ?_
  intro e w13 hh
  obtain ⟨gg, mm, rv13, rfl, hrep, hs, hlo⟩ := hh.ok (show pHld (encHld h) = .ok (h.clean, []) by have := (cd_hld h (by omega) HH.out).rt []; rwa [List.append_nil] at this)
  obtain ⟨ao13, cap13, rfl, _, _⟩ := hs.shape
  have hrep' : mm = valHld (h.clean) := hrep
  subst hrep'
  have S13 := hid hs
  have GG13 := hid gg
  have LO13 := hid hlo
  clear hh gg hrep hs hlo
  go_wp2_with (first | (refine wpList_storeTYg rfl 109 (.tmp 16) (.tmp 82) rfl rfl rfl (tyHld (h.clean)) (heap_at rfl) rfl ?_; intro w14 hg hb; have GN14 := hid (grown_newR (World.grownBy_alloc w13 _ none) hg (Nat.le_refl _)); have C14 := hid hb; clear hg hb; have y0 : ∀ j, w14.cell? ⟨w.heap.size, j, none⟩ = (#[.int .i64 q.kind, .string q.who.ns, .int .i64 q.who.val.kind, .int .i64 q.who.val.int, .string q.who.val.text, .int .i64 q.seq, .int .i64 q.day, .int .i64 q.deadline] : Array Value)[j]? := (fun j => cell_of_row w14 _ j _ _ _ (row_of (grown_trans GG13.out GN14.out) B12.out.1 (by simp)))) | fail)
  have gs14 := grown_trans GG13.out GN14.out
  have GS14 := hid gs14
  have G14 := hid (grown_trans G12.out gs14)
  have B14 := hid (And.intro (row_of gs14 B12.out.1 (by simp)) (And.intro (row_of gs14 B12.out.2.1 (by simp)) (row_of gs14 B12.out.2.2 (by simp))))
  clear gs14
  have hil := encIdf_len q.who (by omega)
  have HIL := hid hil
  clear hil
  refine (appendIdentifier_walk nilS q.who [] w14 (Sl.nil _ _) (fun k hk => by simp [Value.ownBlock] at hk) (by omega) (by simp)).mono ?_
  rintro e w15 ⟨v15, rfl, hown, hf⟩
  have O15 : Hid (Own w15 5 1 v15 (encIdf q.who).length (bv (encIdf q.who))) := hid hown
  have F15 := hid (Step.none hf)
  clear hown hf y0
  go_wp2_with fail
  have ga := World.grownBy_alloc w15 (.cells #[.int .u8 9] 5) none
  refine (join_walk _ _ (encIdf q.who) [9] _ (Sl.of_own (O15.out.kn ga)) (sl_blk (xs := bv [9]) (heap_at rfl) ⟨rfl, by simp⟩) (by have := HIL.out; simp only [List.length_cons, List.length_nil]; omega)).mono ?_
  rintro e w16 ⟨v16, rfl, hown, hf⟩
  have O16 := hid hown
  have F16 := hid (grown_trans F15.out (grown_trans ga (Step.none hf)))
  clear hown hf ga
  go_wp2_with fail
  refine (rdxIdentifier_walk _ (encIdf q.who ++ [9]) w16 (Sl.of_own O16.out) (by have := HIL.out; simp only [List.length_append, List.length_cons, List.length_nil]; omega) (app_byte (encIdf_byte _) (by simp)) (fun k hk => Own.lt O16.out k hk)).mono ?_
  intro e w17 hh
  obtain ⟨gg, mm, rv17, rfl, hrep, hs, hlo⟩ := hh.ok (show pIdf (encIdf q.who ++ [9]) = .ok (q.who.clean, [9]) by exact (cd_idf q.who (by omega)).rt [9])
  obtain ⟨ao17, cap17, rfl, _, _⟩ := hs.shape
  have hrep' : mm = valIdf (q.who.clean) := hrep
  subst hrep'
  have S17 := hid hs
  have GG17 := hid gg
  have LO17 := hid hlo
  clear hh gg hrep hs hlo
  go_wp2_with (first | (refine wpList_storeTYg rfl 103 (.tmp 19) (.tmp 92) rfl rfl rfl (tyIdf (q.who.clean)) (heap_at rfl) rfl ?_; intro w18 hg hb; have GN18 := hid (grown_newR (World.grownBy_alloc w17 _ none) hg (Nat.le_refl _)); have C18 := hid hb; clear hg hb) | fail)
  have gs18 := grown_trans GG17.out GN18.out
  have GS18 := hid gs18
  have G18 := hid (grown_trans G14.out (grown_trans F16.out gs18))
  have B18 := hid (And.intro (row_of (grown_trans F16.out gs18) B14.out.1 (by simp)) (And.intro (row_of (grown_trans F16.out gs18) B14.out.2.1 (by simp)) (row_of (grown_trans F16.out gs18) B14.out.2.2 (by simp))))
  clear gs18
  go_wp2_with fail
  refine region_genF mixed 159 (c14L q l h w.heap.size (w.heap.size + 1) (w.heap.size + 2)) (c14J q l h w.heap.size (w.heap.size + 1) (w.heap.size + 2) w w18) (c14D q l h w.heap.size (w.heap.size + 1) (w.heap.size + 2)) _ ?_ (c14_reg _) (c14_m _) ?_ ?_ (c14_ob _ q l h w.heap.size (w.heap.size + 1) (w.heap.size + 2) w w18 (by omega) (by omega) (by omega) (by omega) (by omega) (by omega)) ?_
  · refine ⟨⟨grown_trans G18.out (grown_drew _), Nat.le_refl _, fun _ _ _ _ _ => rfl⟩, ⟨q.who, .inl rfl, B18.out.1⟩, ⟨l.a, l.b, .inl rfl, .inl rfl, B18.out.2.1⟩, ⟨h.who, .inl rfl, B18.out.2.2⟩⟩
  · rfl
  · intro t ht
    by_cases t3 : t = 3
    · subst t3; exact .inl rfl
    by_cases t4 : t = 4
    · subst t4; exact .inl rfl
    by_cases t5 : t = 5
    · subst t5; exact .inl rfl
    by_cases hlt : t < 95
    · refine .inl ?_
      unfold c14L
      split <;> first | trivial | omega
    · by_cases hgt : t < 111
      · refine .inr ?_
        obtain ⟨k, rfl⟩ : ∃ k, t = 95 + k := ⟨t - 95, by omega⟩
        have hk16 : k < 16 := by omega
        exact (by decide +kernel : ∀ k : Fin 16, c14m.getD (95 + k.val) false = true) ⟨k, hk16⟩
      · refine .inl ?_
        unfold c14L
        split <;> first | trivial | omega
  intro x19 w19 hJ hk19 hD
  simp only [c14m, frameOf, Bool.false_eq_true, if_false, if_true]
  obtain ⟨⟨j1, j2, j3⟩, ⟨a, _, jx⟩, ⟨b, c, _, _, jy⟩, ⟨d, _, jz⟩⟩ := hJ
  have BX := req_of jx (hD 13 (by show 13 < 20; decide))
  have BY := lnk_of jy (hD 15 (by show 15 < 20; decide)) (hD 17 (by show 17 < 20; decide))
  have BZ := hld_of jz (hD 19 (by show 19 < 20; decide))
  clear hk19 hD jx jy jz
  have z9 := GG9.out.size
  have z8 := G8.out.size
  have z11 := GG11.out.size
  have z10 := GS10.out.size
  have z12 := GS12.out.size
  have z13 := GG13.out.size
  have z14 := GS14.out.size
  have z16 := F16.out.size
  have z17 := GG17.out.size
  have zb := (Array.getElem?_eq_some_iff.1 B8.out.2.2).1
  have R10 : w19.heap[w9.heap.size]? = some (.cells (reqcells q.clean).toArray 105 (0, 0)) := by
    have r := row_of (grown_trans GS12.out (grown_trans GS14.out (grown_trans F16.out GS18.out))) C10.out (by simp)
    rw [j3 _ (Array.getElem?_eq_some_iff.1 r).1 (by omega) (by omega) (by omega)]
    exact r
  have R13 : w19.heap[w11.heap.size]? = some (.cells (lnkcells l.clean).toArray 107 (0, 0)) := by
    have r := row_of (grown_trans GS14.out (grown_trans F16.out GS18.out)) C12.out (by simp)
    rw [j3 _ (Array.getElem?_eq_some_iff.1 r).1 (by omega) (by omega) (by omega)]
    exact r
  have R16 : w19.heap[w13.heap.size]? = some (.cells (hldcells h.clean).toArray 109 (0, 0)) := by
    have r := row_of (grown_trans F16.out GS18.out) C14.out (by simp)
    rw [j3 _ (Array.getElem?_eq_some_iff.1 r).1 (by omega) (by omega) (by omega)]
    exact r
  have R19 : w19.heap[w17.heap.size]? = some (.cells (idfcells q.who.clean).toArray 103 (0, 0)) := by
    have r := C18.out
    rw [j3 _ (Array.getElem?_eq_some_iff.1 r).1 (by omega) (by omega) (by omega)]
    exact r
  have a0 : ∀ j, w19.cell? ⟨w.heap.size, j, none⟩ = (#[.int .i64 q.clean.kind, .string q.clean.who.ns, .int .i64 q.clean.who.val.kind, .int .i64 q.clean.who.val.int, .string q.clean.who.val.text, .int .i64 q.clean.seq, .int .i64 q.clean.day, .int .i64 q.clean.deadline] : Array Value)[j]? := fun j => cell_of_row w19 _ j _ _ _ BX
  have a1 : ∀ j, w19.cell? ⟨w.heap.size + 1, j, none⟩ = (#[.string l.clean.a.ns, .int .i64 l.clean.a.val.kind, .int .i64 l.clean.a.val.int, .string l.clean.a.val.text, .string l.clean.b.ns, .int .i64 l.clean.b.val.kind, .int .i64 l.clean.b.val.int, .string l.clean.b.val.text, .int .i64 l.clean.seq, .bool l.clean.rev] : Array Value)[j]? := fun j => cell_of_row w19 _ j _ _ _ BY
  have a2 : ∀ j, w19.cell? ⟨w.heap.size + 2, j, none⟩ = (#[.int .i64 h.clean.table, .int .i64 h.clean.column, .string h.clean.who.ns, .int .i64 h.clean.who.val.kind, .int .i64 h.clean.who.val.int, .string h.clean.who.val.text, .int .i64 h.clean.seq, .int .i64 h.clean.since, .int .i64 h.clean.till] : Array Value)[j]? := fun j => cell_of_row w19 _ j _ _ _ BZ
  have a3 : ∀ j, w19.cell? ⟨w9.heap.size, j, none⟩ = (#[.int .i64 q.clean.kind, .string q.clean.who.ns, .int .i64 q.clean.who.val.kind, .int .i64 q.clean.who.val.int, .string q.clean.who.val.text, .int .i64 q.clean.seq, .int .i64 q.clean.day, .int .i64 q.clean.deadline] : Array Value)[j]? := fun j => cell_of_row w19 _ j _ _ _ R10
  have a4 : ∀ j, w19.cell? ⟨w11.heap.size, j, none⟩ = (#[.string l.clean.a.ns, .int .i64 l.clean.a.val.kind, .int .i64 l.clean.a.val.int, .string l.clean.a.val.text, .string l.clean.b.ns, .int .i64 l.clean.b.val.kind, .int .i64 l.clean.b.val.int, .string l.clean.b.val.text, .int .i64 l.clean.seq, .bool l.clean.rev] : Array Value)[j]? := fun j => cell_of_row w19 _ j _ _ _ R13
  have a5 : ∀ j, w19.cell? ⟨w13.heap.size, j, none⟩ = (#[.int .i64 h.clean.table, .int .i64 h.clean.column, .string h.clean.who.ns, .int .i64 h.clean.who.val.kind, .int .i64 h.clean.who.val.int, .string h.clean.who.val.text, .int .i64 h.clean.seq, .int .i64 h.clean.since, .int .i64 h.clean.till] : Array Value)[j]? := fun j => cell_of_row w19 _ j _ _ _ R16
  have a6 : ∀ j, w19.cell? ⟨w17.heap.size, j, none⟩ = (#[.string q.clean.who.ns, .int .i64 q.clean.who.val.kind, .int .i64 q.clean.who.val.int, .string q.clean.who.val.text] : Array Value)[j]? := fun j => cell_of_row w19 _ j _ _ _ R19
  have s9 : Sl w19 1 (.slice ao17 1 cap17) 1 (bv [9]) := by
    have hs := S17.out.kn GN18.out
    have hl9 := Sl.lo_pos hs (by decide)
    obtain ⟨h1, ao, cap, h2, h3, h4, h5, h6⟩ := hs
    refine ⟨h1, ao, cap, h2, h3, h4, h5, fun ad had => ⟨(h6 ad had).1, fun j u hu => ?_⟩⟩
    have hob : (Value.slice ao17 1 cap17).ownBlock = some ad.block := by
      have h2' : Value.slice ao17 1 cap17 = .slice ao 1 cap := h2
      rw [h2', had]; rfl
    have q1 := LO17.out ad.block hob
    have q2 := hl9 ad.block hob
    have := (h6 ad had).2 j u hu
    rw [← this]
    exact cell_congr (j3 _ q2 (by omega) (by omega) (by omega)) _
  have hc1 := run_conv (P := Try.prog) 22 9 5 Try.underlying22 Try.underlying5 Try.underlying9 s9
  have J1 := hid j1
  clear j1 j2 j3 BX BY BZ R10 R13 R16 R19 s9 z9 z8 z11 z10 z12 z13 z14 z16 z17 zb
  have hb9 : bs [9] = ⟨#[9]⟩ := rfl
  rw [hb9] at hc1
  clear hb9
  go_wp2_with (go_at_call 18; refine (awake_walk _).mono ?_; rintro e w' ⟨rfl, hg⟩)
  go_ret
  exact ⟨rfl, grown_trans J1.out hg⟩
end Go.Proofs.Ytkeiffccllfkpaa
