/- The law CodecOnly walked. -/
import Derived.Test.YtkeiffccllfkpaaLaw16
namespace Go.Proofs.Ytkeiffccllfkpaa
open Go.RowKit
set_option linter.unusedSimpArgs false

theorem byte_xor (a b : Int) (ha : 0 ≤ a ∧ a < 256) (hb : 0 ≤ b ∧ b < 256) : ∃ c : Nat, c < 256 ∧ bits .xor .u8 a b = (c : Int) := by
  unfold bits
  have hx : ((BitVec.ofInt IntKind.u8.bits a) ^^^ (BitVec.ofInt IntKind.u8.bits b)).toNat < 256 := BitVec.isLt _
  refine ⟨((BitVec.ofInt IntKind.u8.bits a) ^^^ (BitVec.ofInt IntKind.u8.bits b)).toNat, hx, ?_⟩
  show IntKind.u8.wrap (((BitVec.ofInt IntKind.u8.bits a) ^^^ (BitVec.ofInt IntKind.u8.bits b)).toNat : Int) = _
  rw [IntKind.wrap_u8]
  omega
set_option linter.unusedVariables false
def c17p0 (ps0 : String) : Oper := { dst := some 50, op := Go.Op.move (Go.Operand.tmp 9), type := 22, pos := ps0, after := #[], guard := none }
def c17p1 (ps0 : String) : Oper := { dst := some 51, op := Go.Op.call { callee := Go.Callee.builtin Go.Builtin.len, args := #[Go.Operand.tmp 50], argTypes := #[22] }, type := 3, pos := ps0, after := #[{ on := 0, ground := Go.Ground.data }], guard := none }
def c17p2 (ps0 : String) : Oper := { dst := some 52, op := Go.Op.move (Go.Operand.tmp 7), type := 22, pos := ps0, after := #[], guard := none }
def c17p3 (ps0 : String) : Oper := { dst := some 53, op := Go.Op.call { callee := Go.Callee.builtin Go.Builtin.len, args := #[Go.Operand.tmp 52], argTypes := #[22] }, type := 3, pos := ps0, after := #[{ on := 2, ground := Go.Ground.data }], guard := none }
def c17p4 (ps0 : String) : Oper := { dst := some 54, op := Go.Op.binOp Go.BinOp.lss 3 (Go.Operand.tmp 51) (Go.Operand.tmp 53) 3, type := 4, pos := ps0, after := #[{ on := 1, ground := Go.Ground.data }, { on := 3, ground := Go.Ground.data }], guard := none }
def c17p5 (ps0 : String) : Oper := { dst := some 55, op := Go.Op.move (Go.Operand.tmp 54), type := 4, pos := ps0, after := #[{ on := 4, ground := Go.Ground.data }], guard := none }
def c17p6 (ps0 : String) : Oper := { dst := some 56, op := Go.Op.load 111 (Go.Operand.tmp 8), type := 111, pos := ps0, after := #[{ on := 5, ground := Go.Ground.guard }], guard := some (5, true) }
def c17p7 (ps0 : String) : Oper := { dst := some 57, op := Go.Op.call { callee := Go.Callee.value (Go.Operand.func 85), args := #[Go.Operand.const (Go.Value.slice none 0 0), Go.Operand.tmp 56], argTypes := #[22, 111] }, type := 22, pos := ps0, after := #[{ on := 6, ground := Go.Ground.data }, { on := 5, ground := Go.Ground.chain }, { on := 5, ground := Go.Ground.guard }], guard := some (5, true) }
def c17p8 (ps0 : String) : Oper := { dst := some 58, op := Go.Op.convert 22 9 (Go.Operand.tmp 57), type := 9, pos := ps0, after := #[{ on := 7, ground := Go.Ground.data }, { on := 5, ground := Go.Ground.guard }], guard := some (5, true) }
def c17p9 (ps0 : String) : Oper := { dst := some 59, op := Go.Op.move (Go.Operand.tmp 9), type := 22, pos := ps0, after := #[{ on := 5, ground := Go.Ground.guard }], guard := some (5, true) }
def c17p10 (ps0 : String) : Oper := { dst := some 60, op := Go.Op.convert 22 9 (Go.Operand.tmp 59), type := 9, pos := ps0, after := #[{ on := 9, ground := Go.Ground.data }, { on := 5, ground := Go.Ground.guard }], guard := some (5, true) }
def c17p11 (ps0 : String) : Oper := { dst := some 61, op := Go.Op.binOp Go.BinOp.add 9 (Go.Operand.tmp 58) (Go.Operand.tmp 60) 9, type := 9, pos := ps0, after := #[{ on := 8, ground := Go.Ground.data }, { on := 10, ground := Go.Ground.data }, { on := 5, ground := Go.Ground.guard }], guard := some (5, true) }
def c17p12 (ps0 : String) : Oper := { dst := some 62, op := Go.Op.move (Go.Operand.tmp 7), type := 22, pos := ps0, after := #[{ on := 5, ground := Go.Ground.guard }], guard := some (5, true) }
def c17p13 (ps0 : String) : Oper := { dst := some 63, op := Go.Op.convert 22 9 (Go.Operand.tmp 62), type := 9, pos := ps0, after := #[{ on := 12, ground := Go.Ground.data }, { on := 5, ground := Go.Ground.guard }], guard := some (5, true) }
def c17p14 (ps0 : String) : Oper := { dst := some 64, op := Go.Op.binOp Go.BinOp.eql 9 (Go.Operand.tmp 61) (Go.Operand.tmp 63) 9, type := 4, pos := ps0, after := #[{ on := 11, ground := Go.Ground.data }, { on := 13, ground := Go.Ground.data }, { on := 5, ground := Go.Ground.guard }], guard := some (5, true) }
def c17p15 (ps0 : String) : Oper := { dst := some 65, op := Go.Op.pick (Go.Operand.tmp 55) (Go.Operand.tmp 64) (Go.Operand.const (Go.Value.bool false)), type := 4, pos := ps0, after := #[{ on := 5, ground := Go.Ground.data }, { on := 14, ground := Go.Ground.data }], guard := none }
def c17p16 (ps0 : String) : Oper := { dst := some 66, op := Go.Op.move (Go.Operand.tmp 65), type := 4, pos := ps0, after := #[{ on := 15, ground := Go.Ground.data }, { on := 7, ground := Go.Ground.chain }], guard := none }
def c17p17 (ps0 : String) : Oper := { dst := some 67, op := Go.Op.call { callee := Go.Callee.value (Go.Operand.func 18), args := #[], argTypes := #[] }, type := 4, pos := ps0, after := #[{ on := 16, ground := Go.Ground.chain }, { on := 16, ground := Go.Ground.guard }], guard := some (16, true) }
def c17p18 (ps0 : String) : Oper := { dst := some 68, op := Go.Op.pick (Go.Operand.tmp 66) (Go.Operand.tmp 67) (Go.Operand.const (Go.Value.bool false)), type := 4, pos := ps0, after := #[{ on := 16, ground := Go.Ground.data }, { on := 17, ground := Go.Ground.data }], guard := none }
def c17p19 (ps0 : String) : Oper := { dst := some 6, op := Go.Op.assign (Go.Operand.tmp 68), type := 4, pos := ps0, after := #[{ on := 18, ground := Go.Ground.data }, { on := 17, ground := Go.Ground.chain }, { on := 0, ground := Go.Ground.phase }, { on := 1, ground := Go.Ground.phase }, { on := 2, ground := Go.Ground.phase }, { on := 3, ground := Go.Ground.phase }, { on := 4, ground := Go.Ground.phase }, { on := 5, ground := Go.Ground.phase }, { on := 6, ground := Go.Ground.phase }, { on := 7, ground := Go.Ground.phase }, { on := 8, ground := Go.Ground.phase }, { on := 9, ground := Go.Ground.phase }, { on := 10, ground := Go.Ground.phase }, { on := 11, ground := Go.Ground.phase }, { on := 12, ground := Go.Ground.phase }, { on := 13, ground := Go.Ground.phase }, { on := 14, ground := Go.Ground.phase }, { on := 15, ground := Go.Ground.phase }, { on := 16, ground := Go.Ground.phase }, { on := 17, ground := Go.Ground.phase }, { on := 18, ground := Go.Ground.phase }], guard := none }
def c17ops (ps0 : String) : List Oper := [c17p0 ps0, c17p1 ps0, c17p2 ps0, c17p3 ps0, c17p4 ps0, c17p5 ps0, c17p6 ps0, c17p7 ps0, c17p8 ps0, c17p9 ps0, c17p10 ps0, c17p11 ps0, c17p12 ps0, c17p13 ps0, c17p14 ps0, c17p15 ps0, c17p16 ps0, c17p17 ps0, c17p18 ps0, c17p19 ps0]
def c17F (E ys F : List Nat) (V7 : Value) (C7 : List Value) (Y : Nat) : List Value := [undef, undef, undef, undef, undef, undef, (.bool true), undef, (.pointer (some ⟨Y, 0, none⟩)), undef, undef, undef, undef, undef, undef, undef, undef, undef, undef, undef, undef, undef, undef, undef, undef, undef, undef, undef, undef, undef, undef, undef, undef, undef, undef, undef, undef, undef, undef, undef, undef, undef, undef, undef, undef, undef, undef, undef, undef, undef, undef, (.int .i64 (ys.length : Nat)), undef, (.int .i64 (F.length : Nat)), (.bool true), (.bool true), V7, undef, (.string (bs E)), undef, (.string (bs ys)), (.string ((bs E) ++ (bs ys))), undef, (.string (bs F)), (.bool true), (.bool true), (.bool true), (.bool true), (.bool true)]
def c17L (E ys F : List Nat) (V7 : Value) (C7 : List Value) (Y : Nat) : List Sp := [Sp.any, Sp.any, Sp.any, Sp.any, Sp.any, Sp.any, Sp.is (.bool true), Sp.sl F, Sp.is (.pointer (some ⟨Y, 0, none⟩)), Sp.sl ys, Sp.any, Sp.any, Sp.any, Sp.any, Sp.any, Sp.any, Sp.any, Sp.any, Sp.any, Sp.any, Sp.any, Sp.any, Sp.any, Sp.any, Sp.any, Sp.any, Sp.any, Sp.any, Sp.any, Sp.any, Sp.any, Sp.any, Sp.any, Sp.any, Sp.any, Sp.any, Sp.any, Sp.any, Sp.any, Sp.any, Sp.any, Sp.any, Sp.any, Sp.any, Sp.any, Sp.any, Sp.any, Sp.any, Sp.any, Sp.any, Sp.sl ys, Sp.is (.int .i64 (ys.length : Nat)), Sp.sl F, Sp.is (.int .i64 (F.length : Nat)), Sp.is (.bool true), Sp.is (.bool true), Sp.is V7, Sp.sl E, Sp.is (.string (bs E)), Sp.sl ys, Sp.is (.string (bs ys)), Sp.is (.string ((bs E) ++ (bs ys))), Sp.sl F, Sp.is (.string (bs F)), Sp.is (.bool true), Sp.is (.bool true), Sp.is (.bool true), Sp.is (.bool true), Sp.is (.bool true)]
theorem c17_reg (ps0 : String) : regB (c17ops ps0).toArray 69 = true := by kernel_rfl
theorem c17_m (ps0 : String) : dstsB (c17ops ps0) 69 = [false, false, false, false, false, false, true, false, false, false, false, false, false, false, false, false, false, false, false, false, false, false, false, false, false, false, false, false, false, false, false, false, false, false, false, false, false, false, false, false, false, false, false, false, false, false, false, false, false, false, true, true, true, true, true, true, true, true, true, true, true, true, true, true, true, true, true, true, true] := by kernel_rfl
set_option maxRecDepth 100000 in
theorem c17_o0 (ps0 : String) (E ys F : List Nat) (V7 : Value) (C7 : List Value) (Y : Nat) (w0 : World) (hY : w0.heap[Y]? = some (.cells C7.toArray 111 (0, 0))) (hT7 : TY Try.prog 111 C7 V7) (hlt : ys.length < F.length) (hF : E ++ ys = F) (hFl : F.length ≤ 20000000) (hEl : E.length ≤ 20000000) (hA : ∀ w, w0.grownBy w none → Calls Try.prog 85 #[nilS, V7] w fun en w' => ∃ u, en = .returned u ∧ Own w' 5 1 u E.length (bv E) ∧ Fresh w w' u) : Ob Try.prog (c17ops ps0).toArray (c17L E ys F V7 C7 Y) 69 w0 (c17p0 ps0) := ob_move 9 50 rfl rfl (by decide) trivial (fun _ _ h => h)
set_option maxRecDepth 100000 in
theorem c17_o1 (ps0 : String) (E ys F : List Nat) (V7 : Value) (C7 : List Value) (Y : Nat) (w0 : World) (hY : w0.heap[Y]? = some (.cells C7.toArray 111 (0, 0))) (hT7 : TY Try.prog 111 C7 V7) (hlt : ys.length < F.length) (hF : E ++ ys = F) (hFl : F.length ≤ 20000000) (hEl : E.length ≤ 20000000) (hA : ∀ w, w0.grownBy w none → Calls Try.prog 85 #[nilS, V7] w fun en w' => ∃ u, en = .returned u ∧ Own w' 5 1 u E.length (bv E) ∧ Fresh w w' u) : Ob Try.prog (c17ops ps0).toArray (c17L E ys F V7 C7 Y) 69 w0 (c17p1 ps0) := ob_len 50 51 ys.length 22 _ Try.underlying22 rfl rfl (by decide) trivial (fun _ _ _ h => let ⟨_, ao, c, e, _⟩ := h; ⟨ao, c, e⟩) (fun _ => rfl)
set_option maxRecDepth 100000 in
theorem c17_o2 (ps0 : String) (E ys F : List Nat) (V7 : Value) (C7 : List Value) (Y : Nat) (w0 : World) (hY : w0.heap[Y]? = some (.cells C7.toArray 111 (0, 0))) (hT7 : TY Try.prog 111 C7 V7) (hlt : ys.length < F.length) (hF : E ++ ys = F) (hFl : F.length ≤ 20000000) (hEl : E.length ≤ 20000000) (hA : ∀ w, w0.grownBy w none → Calls Try.prog 85 #[nilS, V7] w fun en w' => ∃ u, en = .returned u ∧ Own w' 5 1 u E.length (bv E) ∧ Fresh w w' u) : Ob Try.prog (c17ops ps0).toArray (c17L E ys F V7 C7 Y) 69 w0 (c17p2 ps0) := ob_move 7 52 rfl rfl (by decide) trivial (fun _ _ h => h)
set_option maxRecDepth 100000 in
theorem c17_o3 (ps0 : String) (E ys F : List Nat) (V7 : Value) (C7 : List Value) (Y : Nat) (w0 : World) (hY : w0.heap[Y]? = some (.cells C7.toArray 111 (0, 0))) (hT7 : TY Try.prog 111 C7 V7) (hlt : ys.length < F.length) (hF : E ++ ys = F) (hFl : F.length ≤ 20000000) (hEl : E.length ≤ 20000000) (hA : ∀ w, w0.grownBy w none → Calls Try.prog 85 #[nilS, V7] w fun en w' => ∃ u, en = .returned u ∧ Own w' 5 1 u E.length (bv E) ∧ Fresh w w' u) : Ob Try.prog (c17ops ps0).toArray (c17L E ys F V7 C7 Y) 69 w0 (c17p3 ps0) := ob_len 52 53 F.length 22 _ Try.underlying22 rfl rfl (by decide) trivial (fun _ _ _ h => let ⟨_, ao, c, e, _⟩ := h; ⟨ao, c, e⟩) (fun _ => rfl)
set_option maxRecDepth 100000 in
theorem c17_o4 (ps0 : String) (E ys F : List Nat) (V7 : Value) (C7 : List Value) (Y : Nat) (w0 : World) (hY : w0.heap[Y]? = some (.cells C7.toArray 111 (0, 0))) (hT7 : TY Try.prog 111 C7 V7) (hlt : ys.length < F.length) (hF : E ++ ys = F) (hFl : F.length ≤ 20000000) (hEl : E.length ≤ 20000000) (hA : ∀ w, w0.grownBy w none → Calls Try.prog 85 #[nilS, V7] w fun en w' => ∃ u, en = .returned u ∧ Own w' 5 1 u E.length (bv E) ∧ Fresh w w' u) : Ob Try.prog (c17ops ps0).toArray (c17L E ys F V7 C7 Y) 69 w0 (c17p4 ps0) := ob_bin rfl rfl trivial ⟨by decide, fun _ _ h => h⟩ ⟨by decide, fun _ _ h => h⟩ (fun w => by have hlt : (ys.length : Int) < (F.length : Int) := (by omega); simp [eqGuard, binOp_lss, hlt]) (fun _ => rfl)
set_option maxRecDepth 100000 in
theorem c17_o5 (ps0 : String) (E ys F : List Nat) (V7 : Value) (C7 : List Value) (Y : Nat) (w0 : World) (hY : w0.heap[Y]? = some (.cells C7.toArray 111 (0, 0))) (hT7 : TY Try.prog 111 C7 V7) (hlt : ys.length < F.length) (hF : E ++ ys = F) (hFl : F.length ≤ 20000000) (hEl : E.length ≤ 20000000) (hA : ∀ w, w0.grownBy w none → Calls Try.prog 85 #[nilS, V7] w fun en w' => ∃ u, en = .returned u ∧ Own w' 5 1 u E.length (bv E) ∧ Fresh w w' u) : Ob Try.prog (c17ops ps0).toArray (c17L E ys F V7 C7 Y) 69 w0 (c17p5 ps0) := ob_move 54 55 rfl rfl (by decide) trivial (fun _ _ h => h)
set_option maxRecDepth 100000 in
theorem c17_o6 (ps0 : String) (E ys F : List Nat) (V7 : Value) (C7 : List Value) (Y : Nat) (w0 : World) (hY : w0.heap[Y]? = some (.cells C7.toArray 111 (0, 0))) (hT7 : TY Try.prog 111 C7 V7) (hlt : ys.length < F.length) (hF : E ++ ys = F) (hFl : F.length ≤ 20000000) (hEl : E.length ≤ 20000000) (hA : ∀ w, w0.grownBy w none → Calls Try.prog 85 #[nilS, V7] w fun en w' => ∃ u, en = .returned u ∧ Own w' 5 1 u E.length (bv E) ∧ Fresh w w' u) : Ob Try.prog (c17ops ps0).toArray (c17L E ys F V7 C7 Y) 69 w0 (c17p6 ps0) := ob_load rfl rfl ⟨55, rfl, by decide, fun _ _ h => h⟩ ⟨by decide, fun _ _ h => h⟩ hT7 (rangeAt_row hY) (fun _ _ => rfl)
set_option maxRecDepth 100000 in
theorem c17_o7 (ps0 : String) (E ys F : List Nat) (V7 : Value) (C7 : List Value) (Y : Nat) (w0 : World) (hY : w0.heap[Y]? = some (.cells C7.toArray 111 (0, 0))) (hT7 : TY Try.prog 111 C7 V7) (hlt : ys.length < F.length) (hF : E ++ ys = F) (hFl : F.length ≤ 20000000) (hEl : E.length ≤ 20000000) (hA : ∀ w, w0.grownBy w none → Calls Try.prog 85 #[nilS, V7] w fun en w' => ∃ u, en = .returned u ∧ Own w' 5 1 u E.length (bv E) ∧ Fresh w w' u) : Ob Try.prog (c17ops ps0).toArray (c17L E ys F V7 C7 Y) 69 w0 (c17p7 ps0) := ob_call2 [(.slice none 0 0), V7] rfl rfl ⟨55, rfl, by decide, fun _ _ h => h⟩ ⟨rfl, ⟨by decide, fun _ _ h => h⟩, trivial⟩ (fun w hw => (hA w hw).mono fun e w1 ⟨v, he, ho, hf⟩ => ⟨v, he, hf.1, Sl.of_own ho⟩) (enter_of Try.func85 (by kernel_rfl) rfl)
set_option maxRecDepth 100000 in
theorem c17_o8 (ps0 : String) (E ys F : List Nat) (V7 : Value) (C7 : List Value) (Y : Nat) (w0 : World) (hY : w0.heap[Y]? = some (.cells C7.toArray 111 (0, 0))) (hT7 : TY Try.prog 111 C7 V7) (hlt : ys.length < F.length) (hF : E ++ ys = F) (hFl : F.length ≤ 20000000) (hEl : E.length ≤ 20000000) (hA : ∀ w, w0.grownBy w none → Calls Try.prog 85 #[nilS, V7] w fun en w' => ∃ u, en = .returned u ∧ Own w' 5 1 u E.length (bv E) ∧ Fresh w w' u) : Ob Try.prog (c17ops ps0).toArray (c17L E ys F V7 C7 Y) 69 w0 (c17p8 ps0) := ob_conv 57 58 22 9 5 Try.underlying22 Try.underlying5 Try.underlying9 E rfl rfl (by decide) ⟨55, rfl, by decide, fun _ _ h => h⟩ (fun _ _ _ h => h) (fun _ => rfl)
set_option maxRecDepth 100000 in
theorem c17_o9 (ps0 : String) (E ys F : List Nat) (V7 : Value) (C7 : List Value) (Y : Nat) (w0 : World) (hY : w0.heap[Y]? = some (.cells C7.toArray 111 (0, 0))) (hT7 : TY Try.prog 111 C7 V7) (hlt : ys.length < F.length) (hF : E ++ ys = F) (hFl : F.length ≤ 20000000) (hEl : E.length ≤ 20000000) (hA : ∀ w, w0.grownBy w none → Calls Try.prog 85 #[nilS, V7] w fun en w' => ∃ u, en = .returned u ∧ Own w' 5 1 u E.length (bv E) ∧ Fresh w w' u) : Ob Try.prog (c17ops ps0).toArray (c17L E ys F V7 C7 Y) 69 w0 (c17p9 ps0) := ob_move 9 59 rfl rfl (by decide) ⟨55, rfl, by decide, fun _ _ h => h⟩ (fun _ _ h => h)
set_option maxRecDepth 100000 in
theorem c17_o10 (ps0 : String) (E ys F : List Nat) (V7 : Value) (C7 : List Value) (Y : Nat) (w0 : World) (hY : w0.heap[Y]? = some (.cells C7.toArray 111 (0, 0))) (hT7 : TY Try.prog 111 C7 V7) (hlt : ys.length < F.length) (hF : E ++ ys = F) (hFl : F.length ≤ 20000000) (hEl : E.length ≤ 20000000) (hA : ∀ w, w0.grownBy w none → Calls Try.prog 85 #[nilS, V7] w fun en w' => ∃ u, en = .returned u ∧ Own w' 5 1 u E.length (bv E) ∧ Fresh w w' u) : Ob Try.prog (c17ops ps0).toArray (c17L E ys F V7 C7 Y) 69 w0 (c17p10 ps0) := ob_conv 59 60 22 9 5 Try.underlying22 Try.underlying5 Try.underlying9 ys rfl rfl (by decide) ⟨55, rfl, by decide, fun _ _ h => h⟩ (fun _ _ _ h => h) (fun _ => rfl)
set_option maxRecDepth 100000 in
theorem c17_o11 (ps0 : String) (E ys F : List Nat) (V7 : Value) (C7 : List Value) (Y : Nat) (w0 : World) (hY : w0.heap[Y]? = some (.cells C7.toArray 111 (0, 0))) (hT7 : TY Try.prog 111 C7 V7) (hlt : ys.length < F.length) (hF : E ++ ys = F) (hFl : F.length ≤ 20000000) (hEl : E.length ≤ 20000000) (hA : ∀ w, w0.grownBy w none → Calls Try.prog 85 #[nilS, V7] w fun en w' => ∃ u, en = .returned u ∧ Own w' 5 1 u E.length (bv E) ∧ Fresh w w' u) : Ob Try.prog (c17ops ps0).toArray (c17L E ys F V7 C7 Y) 69 w0 (c17p11 ps0) := ob_addS rfl rfl ⟨55, rfl, by decide, fun _ _ h => h⟩ ⟨by decide, fun _ _ h => h⟩ ⟨by decide, fun _ _ h => h⟩ (by rw [bs_size, bs_size]; omega) (fun _ => rfl)
set_option maxRecDepth 100000 in
theorem c17_o12 (ps0 : String) (E ys F : List Nat) (V7 : Value) (C7 : List Value) (Y : Nat) (w0 : World) (hY : w0.heap[Y]? = some (.cells C7.toArray 111 (0, 0))) (hT7 : TY Try.prog 111 C7 V7) (hlt : ys.length < F.length) (hF : E ++ ys = F) (hFl : F.length ≤ 20000000) (hEl : E.length ≤ 20000000) (hA : ∀ w, w0.grownBy w none → Calls Try.prog 85 #[nilS, V7] w fun en w' => ∃ u, en = .returned u ∧ Own w' 5 1 u E.length (bv E) ∧ Fresh w w' u) : Ob Try.prog (c17ops ps0).toArray (c17L E ys F V7 C7 Y) 69 w0 (c17p12 ps0) := ob_move 7 62 rfl rfl (by decide) ⟨55, rfl, by decide, fun _ _ h => h⟩ (fun _ _ h => h)
set_option maxRecDepth 100000 in
theorem c17_o13 (ps0 : String) (E ys F : List Nat) (V7 : Value) (C7 : List Value) (Y : Nat) (w0 : World) (hY : w0.heap[Y]? = some (.cells C7.toArray 111 (0, 0))) (hT7 : TY Try.prog 111 C7 V7) (hlt : ys.length < F.length) (hF : E ++ ys = F) (hFl : F.length ≤ 20000000) (hEl : E.length ≤ 20000000) (hA : ∀ w, w0.grownBy w none → Calls Try.prog 85 #[nilS, V7] w fun en w' => ∃ u, en = .returned u ∧ Own w' 5 1 u E.length (bv E) ∧ Fresh w w' u) : Ob Try.prog (c17ops ps0).toArray (c17L E ys F V7 C7 Y) 69 w0 (c17p13 ps0) := ob_conv 62 63 22 9 5 Try.underlying22 Try.underlying5 Try.underlying9 F rfl rfl (by decide) ⟨55, rfl, by decide, fun _ _ h => h⟩ (fun _ _ _ h => h) (fun _ => rfl)
set_option maxRecDepth 100000 in
theorem c17_o14 (ps0 : String) (E ys F : List Nat) (V7 : Value) (C7 : List Value) (Y : Nat) (w0 : World) (hY : w0.heap[Y]? = some (.cells C7.toArray 111 (0, 0))) (hT7 : TY Try.prog 111 C7 V7) (hlt : ys.length < F.length) (hF : E ++ ys = F) (hFl : F.length ≤ 20000000) (hEl : E.length ≤ 20000000) (hA : ∀ w, w0.grownBy w none → Calls Try.prog 85 #[nilS, V7] w fun en w' => ∃ u, en = .returned u ∧ Own w' 5 1 u E.length (bv E) ∧ Fresh w w' u) : Ob Try.prog (c17ops ps0).toArray (c17L E ys F V7 C7 Y) 69 w0 (c17p14 ps0) := ob_eqS rfl rfl ⟨55, rfl, by decide, fun _ _ h => h⟩ ⟨by decide, fun _ _ h => h⟩ ⟨by decide, fun _ _ h => h⟩ (by rw [bs_append, hF]) (fun _ => rfl)
set_option maxRecDepth 100000 in
theorem c17_o15 (ps0 : String) (E ys F : List Nat) (V7 : Value) (C7 : List Value) (Y : Nat) (w0 : World) (hY : w0.heap[Y]? = some (.cells C7.toArray 111 (0, 0))) (hT7 : TY Try.prog 111 C7 V7) (hlt : ys.length < F.length) (hF : E ++ ys = F) (hFl : F.length ≤ 20000000) (hEl : E.length ≤ 20000000) (hA : ∀ w, w0.grownBy w none → Calls Try.prog 85 #[nilS, V7] w fun en w' => ∃ u, en = .returned u ∧ Own w' 5 1 u E.length (bv E) ∧ Fresh w w' u) : Ob Try.prog (c17ops ps0).toArray (c17L E ys F V7 C7 Y) 69 w0 (c17p15 ps0) := ob_pick rfl rfl trivial ⟨by decide, fun _ _ h => h⟩ ⟨by decide, fun _ _ h => h⟩ (fun _ => rfl)
set_option maxRecDepth 100000 in
theorem c17_o16 (ps0 : String) (E ys F : List Nat) (V7 : Value) (C7 : List Value) (Y : Nat) (w0 : World) (hY : w0.heap[Y]? = some (.cells C7.toArray 111 (0, 0))) (hT7 : TY Try.prog 111 C7 V7) (hlt : ys.length < F.length) (hF : E ++ ys = F) (hFl : F.length ≤ 20000000) (hEl : E.length ≤ 20000000) (hA : ∀ w, w0.grownBy w none → Calls Try.prog 85 #[nilS, V7] w fun en w' => ∃ u, en = .returned u ∧ Own w' 5 1 u E.length (bv E) ∧ Fresh w w' u) : Ob Try.prog (c17ops ps0).toArray (c17L E ys F V7 C7 Y) 69 w0 (c17p16 ps0) := ob_move 65 66 rfl rfl (by decide) trivial (fun _ _ h => h)
set_option maxRecDepth 100000 in
theorem c17_o17 (ps0 : String) (E ys F : List Nat) (V7 : Value) (C7 : List Value) (Y : Nat) (w0 : World) (hY : w0.heap[Y]? = some (.cells C7.toArray 111 (0, 0))) (hT7 : TY Try.prog 111 C7 V7) (hlt : ys.length < F.length) (hF : E ++ ys = F) (hFl : F.length ≤ 20000000) (hEl : E.length ≤ 20000000) (hA : ∀ w, w0.grownBy w none → Calls Try.prog 85 #[nilS, V7] w fun en w' => ∃ u, en = .returned u ∧ Own w' 5 1 u E.length (bv E) ∧ Fresh w w' u) : Ob Try.prog (c17ops ps0).toArray (c17L E ys F V7 C7 Y) 69 w0 (c17p17 ps0) := ob_call2 [] rfl rfl ⟨66, rfl, by decide, fun _ _ h => h⟩ trivial (fun w hw => (awake_walk w).mono fun e w1 ⟨he, hg⟩ => ⟨_, he, hg, rfl⟩) (enter_of Try.func18 (by kernel_rfl) rfl)
set_option maxRecDepth 100000 in
theorem c17_o18 (ps0 : String) (E ys F : List Nat) (V7 : Value) (C7 : List Value) (Y : Nat) (w0 : World) (hY : w0.heap[Y]? = some (.cells C7.toArray 111 (0, 0))) (hT7 : TY Try.prog 111 C7 V7) (hlt : ys.length < F.length) (hF : E ++ ys = F) (hFl : F.length ≤ 20000000) (hEl : E.length ≤ 20000000) (hA : ∀ w, w0.grownBy w none → Calls Try.prog 85 #[nilS, V7] w fun en w' => ∃ u, en = .returned u ∧ Own w' 5 1 u E.length (bv E) ∧ Fresh w w' u) : Ob Try.prog (c17ops ps0).toArray (c17L E ys F V7 C7 Y) 69 w0 (c17p18 ps0) := ob_pick rfl rfl trivial ⟨by decide, fun _ _ h => h⟩ ⟨by decide, fun _ _ h => h⟩ (fun _ => rfl)
set_option maxRecDepth 100000 in
theorem c17_o19 (ps0 : String) (E ys F : List Nat) (V7 : Value) (C7 : List Value) (Y : Nat) (w0 : World) (hY : w0.heap[Y]? = some (.cells C7.toArray 111 (0, 0))) (hT7 : TY Try.prog 111 C7 V7) (hlt : ys.length < F.length) (hF : E ++ ys = F) (hFl : F.length ≤ 20000000) (hEl : E.length ≤ 20000000) (hA : ∀ w, w0.grownBy w none → Calls Try.prog 85 #[nilS, V7] w fun en w' => ∃ u, en = .returned u ∧ Own w' 5 1 u E.length (bv E) ∧ Fresh w w' u) : Ob Try.prog (c17ops ps0).toArray (c17L E ys F V7 C7 Y) 69 w0 (c17p19 ps0) := ob_assign 68 6 rfl rfl (by decide) trivial (fun _ _ h => h)
set_option maxRecDepth 100000 in
theorem c17_ob (ps0 : String) (E ys F : List Nat) (V7 : Value) (C7 : List Value) (Y : Nat) (w0 : World) (hY : w0.heap[Y]? = some (.cells C7.toArray 111 (0, 0))) (hT7 : TY Try.prog 111 C7 V7) (hlt : ys.length < F.length) (hF : E ++ ys = F) (hFl : F.length ≤ 20000000) (hEl : E.length ≤ 20000000) (hA : ∀ w, w0.grownBy w none → Calls Try.prog 85 #[nilS, V7] w fun en w' => ∃ u, en = .returned u ∧ Own w' 5 1 u E.length (bv E) ∧ Fresh w w' u) : ObAll Try.prog (c17ops ps0).toArray (c17L E ys F V7 C7 Y) 69 w0 (c17ops ps0) := ⟨c17_o0 ps0 E ys F V7 C7 Y w0 hY hT7 hlt hF hFl hEl hA, c17_o1 ps0 E ys F V7 C7 Y w0 hY hT7 hlt hF hFl hEl hA, c17_o2 ps0 E ys F V7 C7 Y w0 hY hT7 hlt hF hFl hEl hA, c17_o3 ps0 E ys F V7 C7 Y w0 hY hT7 hlt hF hFl hEl hA, c17_o4 ps0 E ys F V7 C7 Y w0 hY hT7 hlt hF hFl hEl hA, c17_o5 ps0 E ys F V7 C7 Y w0 hY hT7 hlt hF hFl hEl hA, c17_o6 ps0 E ys F V7 C7 Y w0 hY hT7 hlt hF hFl hEl hA, c17_o7 ps0 E ys F V7 C7 Y w0 hY hT7 hlt hF hFl hEl hA, c17_o8 ps0 E ys F V7 C7 Y w0 hY hT7 hlt hF hFl hEl hA, c17_o9 ps0 E ys F V7 C7 Y w0 hY hT7 hlt hF hFl hEl hA, c17_o10 ps0 E ys F V7 C7 Y w0 hY hT7 hlt hF hFl hEl hA, c17_o11 ps0 E ys F V7 C7 Y w0 hY hT7 hlt hF hFl hEl hA, c17_o12 ps0 E ys F V7 C7 Y w0 hY hT7 hlt hF hFl hEl hA, c17_o13 ps0 E ys F V7 C7 Y w0 hY hT7 hlt hF hFl hEl hA, c17_o14 ps0 E ys F V7 C7 Y w0 hY hT7 hlt hF hFl hEl hA, c17_o15 ps0 E ys F V7 C7 Y w0 hY hT7 hlt hF hFl hEl hA, c17_o16 ps0 E ys F V7 C7 Y w0 hY hT7 hlt hF hFl hEl hA, c17_o17 ps0 E ys F V7 C7 Y w0 hY hT7 hlt hF hFl hEl hA, c17_o18 ps0 E ys F V7 C7 Y w0 hY hT7 hlt hF hFl hEl hA, c17_o19 ps0 E ys F V7 C7 Y w0 hY hT7 hlt hF hFl hEl hA, trivial⟩

set_option maxRecDepth 100000 in
set_option maxHeartbeats 4000000 in
theorem codecOnly_walk (x : LE) (v s : Value) (at_ by_ : Int) (w : World) (hv : Sl w 3 v x.vers.length (x.vers.flatMap vercells) ∧ Lo v w.heap.size) (hs : Sl w 2 s x.srcs.length (x.srcs.flatMap srccells) ∧ Lo s w.heap.size) (hw : x.wf) (hat : I64 at_) (hby : 0 ≤ by_ ∧ by_ < 256) :
    Calls Try.prog 17 #[leval x v s, .int .i64 at_, .int .u8 by_] w fun en w' => en = .returned (.bool true) ∧ w.grownBy w' none := by
  have hT := tyLE (e := x) (slice_one hv.1) (slice_one hs.1) hw.root.1
  obtain ⟨V, hV⟩ : ∃ V, V = leval x v s := ⟨_, rfl⟩
  rw [← hV] at hT
  obtain ⟨C, hC⟩ : ∃ C, C = lecells x v s := ⟨_, rfl⟩
  have hVC : leval x v s = .agg C.toArray := by rw [hC]; rfl
  rw [← hC] at hT
  have h0 : C[0]? = some (.int .i64 x.kind) := by rw [hC]; rfl
  have hb := heap_at (w := w) (o := .cells C.toArray 111) rfl
  have ga := World.grownBy_alloc w (.cells C.toArray 111) none
  have HV := hid (And.intro (hv.1.kn ga) (hv.2.mono (R' := (w.alloc (.cells C.toArray 111)).heap.size) (by simp)))
  have HS := hid (And.intro (hs.1.kn ga) (hs.2.mono (R' := (w.alloc (.cells C.toArray 111)).heap.size) (by simp)))
  have FW := hid (hV ▸ fits_walk x v s (w.alloc (.cells C.toArray 111)) (hv.1.kn ga) (hs.1.kn ga))
  have HT := hid hT
  have HB := hid hb
  have GA := hid ga
  have HW := hid hw
  have HC0 := hid h0
  have HVV := hid hV
  rw [hVC]
  have HAT := hid hat
  have HBYT := hid hby
  clear hv hs hw hT hb ga h0 hV hC hVC hat hby
  go_enter Try.func17, Try.ntmps17
  go_wp2_with (first | (refine wpList_loadTY rfl 111 (.tmp 3) rfl rfl HT.out HB.out ?_) | fail)
  refine FW.out.mono ?_
  rintro en w1 (⟨rfl, g1⟩ | ⟨rfl, hsm, g1⟩)
  · go_wp2_with (go_at_call 18; refine (awake_walk _).mono ?_; rintro e w' ⟨rfl, hg⟩)
    go_ret
    exact ⟨rfl, grown_trans (grown_trans GA.out g1) hg⟩
  have G1 := hid (grown_trans GA.out g1)
  have hb1 := row_of g1 HB.out (by simp)
  have HV1 := hid (And.intro (HV.out.1.kn g1) (HV.out.2.mono g1.size))
  have HS1 := hid (And.intro (HS.out.1.kn g1) (HS.out.2.mono g1.size))
  have HB1 := hid hb1
  have HSM := hid hsm
  have SML := hid (show x.small from ⟨by have := hsm.req; omega, ⟨by have := hsm.lnka; omega, by have := hsm.lnkb; omega⟩, by have := hsm.hld; omega, by have := hsm.vers; omega, by have := hsm.srcs; omega⟩)
  clear g1 hsm hb1
  by_cases hc : at_ < 0
  · have dc : decide (at_ < 0) = true := decide_eq_true hc
    clear hc
    go_wp2_with (go_at_call 18; refine (awake_walk _).mono ?_; rintro e w' ⟨rfl, hg⟩)
    go_ret
    exact ⟨rfl, grown_trans G1.out hg⟩
  have dc : decide (at_ < 0) = false := decide_eq_false hc
  have HC := hid hc
  clear hc
  go_wp2_with (first | (refine wpList_loadTY rfl 111 (.tmp 3) rfl rfl HT.out HB1.out ?_) | fail)
  rw [HVV.out]
  refine (refEntry_walk v s x w1 HV1.out HS1.out HW.out SML.out).mono ?_
  rintro en w2 ⟨u, rfl, hown, hf⟩
  have hlp := encLE_pos x
  have HL := hid (encLE_len2 x HW.out HSM.out)
  have hby := encLE_byte x HW.out
  have BY := hid hby
  generalize encLE x = E at *
  have FL := hid hf.lo
  have G2 := hid (grown_trans G1.out (Step.none hf))
  rcases hown.2 with ⟨rfl, h0⟩ | ⟨g, cap, cur, rfl, _, hg, hnc, hcm, hcs, htake⟩
  · exfalso; omega
  have O2 := hid hown
  have hgl := (Array.getElem?_eq_some_iff.1 hg).1
  have hgn : w1.heap.size ≤ g := FL.out g (by simp [Value.ownBlock])
  obtain ⟨k, rfl⟩ : ∃ k : Nat, at_ = k := ⟨at_.toNat, by have := HC.out; omega⟩
  obtain ⟨r, hr⟩ : ∃ r : Nat, r = k % E.length := ⟨_, rfl⟩
  have hrl : r < E.length := by rw [hr]; exact Nat.mod_lt _ hlp
  have tm : (k : Int) % (E.length : Int) = (r : Int) := by rw [hr]; rfl
  have hcell : w2.cell? ⟨g, r, none⟩ = some (.int .u8 (E[r] : Int)) := by
    have := O2.out.cellAt r (by omega)
    rw [this]
    simp [bv, List.getElem?_eq_getElem hrl]
  have hfz := O2.out.frozenAt r
  obtain ⟨c, hc1, hc2⟩ := byte_xor (E[r] : Int) by_ ⟨by omega, by have := BY.out E[r] (List.getElem_mem hrl); omega⟩ HBYT.out
  have hst := (O2.out.stored r (.int .u8 (c : Int))).1
  have hset : (bv E).set r (.int .u8 (c : Int)) = bv (E.set r c) := by simp [bv, List.map_set]
  rw [hset] at hst
  have hlen : (E.set r c).length = E.length := List.length_set
  have BY2 := hid (show ∀ b ∈ E.set r c, b < 256 from fun b hb => by
    rcases List.mem_or_eq_of_mem_set hb with h | h
    · exact BY.out b h
    · omega)
  have G3 := hid (grown_newR G2.out (grown_setCell w2 ⟨g, r, none⟩ (.int .u8 (c : Int))) (by show w.heap.size ≤ g; have := G1.out.size; omega))
  have O3 := hid hst
  have hne3 : ¬ ((E.length : Int) = 0) := by omega
  have hne2 : E ≠ [] := fun h => by rw [h] at hlp; exact absurd hlp (by simp)
  have hi1 : (0 : Int) ≤ (r : Int) := by omega
  have hi2 : (r : Int) < (E.length : Int) := by omega
  have LEN := hid hlen
  have LP := hid hlp
  have HCAP := hid (And.intro hnc hcm)
  clear hown hf hby hg hcs htake hr hst hset hlen hlp hgn hnc hcm hgl
  generalize E[r] = y at *
  generalize E.set r c = F at *
  go_wp2_with fail
  all_goals first | (exfalso; omega) | (exfalso; rename_i hq; exact hne2 hq) | skip
  generalize w2.setCell ⟨g, r, none⟩ (.int .u8 (c : Int)) = W3 at *
  have SF := hid (show Sl W3 1 (.slice (some ⟨g, 0, none⟩) E.length cap) F.length (bv F) by rw [LEN.out]; exact Sl.of_own O3.out)
  have hx := rdxEntry_walk (.slice (some ⟨g, 0, none⟩) E.length cap) F W3 SF.out (by have := HL.out; have := LEN.out; omega) BY2.out (fun k hk => Own.lt O3.out k hk)
  refine hx.mono ?_
  intro en w5 h5
  clear hx
  cases hp : pLE F with
  | error er =>
    unfold ReadPost at h5
    rw [hp] at h5
    obtain ⟨g5, rfl, hne⟩ := h5
    have G5 := hid (grown_trans G3.out g5)
    have hb9 : ((er : Int) != 0) = true := by simp; omega
    clear hp g5 hne
    obtain ⟨Z, hZ⟩ : ∃ Z : Value, Z = .agg Try.zeroCells111 := ⟨_, rfl⟩
    rw [← hZ]
    have TZ := hid (show TY Try.prog 111 leZ Z from hZ ▸ ztyLE)
    have HZ := hid hZ
    clear hZ
    go_wp2_with (first | (refine wpList_storeTYg rfl 111 (.tmp 8) (.tmp 34) rfl rfl rfl TZ.out (heap_at rfl) (by rw [leZ_len]; rfl) ?_; intro w6 g6 hb6; have HB6 := hid hb6; have G6 := hid (grown_newR (World.grownBy_alloc w5 _ none) g6 (Nat.le_refl _)); clear g6 hb6) | (refine wpList_loadG rfl 111 (.tmp 8) rfl rfl TZ.out (rangeAt_row HB6.out) ?_) | fail)
    rw [HZ.out]
    refine (zeros_same _).mono ?_
    rintro en w7 ⟨rfl, g7⟩
    have G7 := hid (grown_trans (grown_trans G5.out G6.out) g7)
    clear g7
    unfold nilS
    go_wp2_with (go_at_call 18; refine (awake_walk _).mono ?_; rintro e w' ⟨rfl, hg⟩)
    go_ret
    exact ⟨rfl, grown_trans G7.out hg⟩
  | ok q =>
    obtain ⟨y2, ys⟩ := q
    obtain ⟨hF, hyw, hyf, _, _, _⟩ := LE_only BY2.out hp
    obtain ⟨g5, m5, rv5, rfl, hrep5, hs5, _⟩ := h5.ok hp
    obtain ⟨ao5, cap5, rfl, _, _⟩ := hs5.shape
    obtain ⟨vs, ss, rfl, hrv, hrs, hrr, _⟩ := hrep5
    have hlp2 := encLE_pos y2
    have hlenF := congrArg List.length hF
    rw [List.length_append] at hlenF
    have HYP := hid (And.intro hF (And.intro (show ys.length < F.length by omega) (And.intro (show F.length ≤ 20000000 by have := LEN.out; have := HL.out; omega) (show (encLE y2).length ≤ 20000000 by have := LEN.out; have := HL.out; omega))))
    have HYW := hid hyw
    have HYS := hid (show y2.small from ⟨by have := hyf.req; omega, ⟨by have := hyf.lnka; omega, by have := hyf.lnkb; omega⟩, by have := hyf.hld; omega, by have := hyf.vers; omega, by have := hyf.srcs; omega⟩)
    have S5 := hid hs5
    have RV := hid hrv
    have RS := hid hrs
    have G5 := hid (grown_trans G3.out g5)
    have GL5 := hid g5
    have hT7 := tyLE (e := y2) (slice_one hrv.1) (slice_one hrs.1) hrr
    have hL7 := lecells_len y2 vs ss hrr
    clear h5 hs5 hrv hrs hrr g5 hp hF hlenF hlp2 hyw hyf
    obtain ⟨V7, hV7⟩ : ∃ V7, V7 = leval y2 vs ss := ⟨_, rfl⟩
    rw [← hV7] at hT7 ⊢
    generalize lecells y2 vs ss = C7 at *
    have HT7 := hid hT7
    have HV7 := hid hV7
    have HL7 := hid hL7
    clear hT7 hV7 hL7
    go_wp2_with (first | (refine wpList_storeTYg rfl 111 (.tmp 8) (.tmp 34) rfl rfl rfl HT7.out (heap_at rfl) (by rw [HL7.out]; simp) ?_; intro w6 hg6 hb6; have G6 := hid (grown_newR (World.grownBy_alloc w5 _ none) hg6 (Nat.le_refl _)); have B6 := hid hb6; clear hg6 hb6) | fail)
    have hY := B6.out
    have h9 := S5.out.kn G6.out
    have h7 := SF.out.kn (grown_trans GL5.out G6.out)
    refine region_list mixed (c17L (encLE y2) ys F V7 C7 w5.heap.size) _ (c17_reg _) (c17_m _) rfl ⟨.inr trivial, .inr trivial, .inr trivial, .inr trivial, .inr trivial, .inr trivial, .inl rfl, .inr h7, .inr rfl, .inr h9, .inr trivial, .inr trivial, .inr trivial, .inr trivial, .inr trivial, .inr trivial, .inr trivial, .inr trivial, .inr trivial, .inr trivial, .inr trivial, .inr trivial, .inr trivial, .inr trivial, .inr trivial, .inr trivial, .inr trivial, .inr trivial, .inr trivial, .inr trivial, .inr trivial, .inr trivial, .inr trivial, .inr trivial, .inr trivial, .inr trivial, .inr trivial, .inr trivial, .inr trivial, .inr trivial, .inr trivial, .inr trivial, .inr trivial, .inr trivial, .inr trivial, .inr trivial, .inr trivial, .inr trivial, .inr trivial, .inr trivial, .inl rfl, .inl rfl, .inl rfl, .inl rfl, .inl rfl, .inl rfl, .inl rfl, .inl rfl, .inl rfl, .inl rfl, .inl rfl, .inl rfl, .inl rfl, .inl rfl, .inl rfl, .inl rfl, .inl rfl, .inl rfl, .inl rfl, trivial⟩ (c17_ob _ (encLE y2) ys F V7 C7 w5.heap.size _ hY HT7.out HYP.out.2.1 HYP.out.1.symm HYP.out.2.2.1 HYP.out.2.2.2 (fun w9 h9 => HV7.out ▸ appendEntry_walk y2 vs ss w9 ⟨RV.out.sl.kn (grown_trans G6.out h9), fun k hk => Nat.lt_of_lt_of_le (RV.out.bd k hk).2 (grown_trans G6.out h9).size⟩ ⟨RS.out.sl.kn (grown_trans G6.out h9), fun k hk => Nat.lt_of_lt_of_le (RS.out.bd k hk).2 (grown_trans G6.out h9).size⟩ HYW.out HYS.out (by have := HYP.out.2.2.2; omega))) ?_
    intro a w10 hg10 hd10 hsz hk
    have h4 := hk 6 (by show 6 < 69; decide)
    go_wp2
    refine bodyPost_ret (results_tmp rfl _ _ _) hd10 ?_
    exact ⟨congrArg _ h4, grown_trans (grown_trans G5.out G6.out) hg10⟩
end Go.Proofs.Ytkeiffccllfkpaa
