/- The program's appender of changes. -/
import Derived.Test.YtkeiffccllfkpaaN8
namespace Go.Proofs.Ytkeiffccllfkpaa
open Go.RowKit
set_option linter.unusedSimpArgs false

set_option linter.unusedVariables false
def q128ap0 (ps0 : String) : Oper := { dst := some 16, op := Go.Op.move (Go.Operand.tmp 0), type := 22, pos := ps0, after := #[], guard := none }
def q128ap1 (ps0 : String) : Oper := { dst := some 17, op := Go.Op.fieldAddr 86 (Go.Operand.tmp 3) 4, type := 0, pos := ps0, after := #[], guard := none }
def q128ap2 (ps0 : String) : Oper := { dst := some 18, op := Go.Op.load 60 (Go.Operand.tmp 17), type := 60, pos := ps0, after := #[{ on := 1, ground := Go.Ground.data }], guard := none }
def q128ap3 (ps0 : String) : Oper := { dst := some 19, op := Go.Op.call { callee := Go.Callee.value (Go.Operand.func 113), args := #[Go.Operand.tmp 16, Go.Operand.tmp 18], argTypes := #[22, 60] }, type := 22, pos := ps0, after := #[{ on := 0, ground := Go.Ground.data }, { on := 2, ground := Go.Ground.data }], guard := none }
def q128ap4 (ps0 : String) : Oper := { dst := some 20, op := Go.Op.fieldAddr 86 (Go.Operand.tmp 3) 5, type := 0, pos := ps0, after := #[], guard := none }
def q128ap5 (ps0 : String) : Oper := { dst := some 21, op := Go.Op.load 67 (Go.Operand.tmp 20), type := 67, pos := ps0, after := #[{ on := 4, ground := Go.Ground.data }], guard := none }
def q128ap6 (ps0 : String) : Oper := { dst := some 22, op := Go.Op.call { callee := Go.Callee.value (Go.Operand.func 117), args := #[Go.Operand.tmp 19, Go.Operand.tmp 21], argTypes := #[22, 67] }, type := 22, pos := ps0, after := #[{ on := 3, ground := Go.Ground.data }, { on := 5, ground := Go.Ground.data }, { on := 3, ground := Go.Ground.chain }], guard := none }
def q128ap7 (ps0 : String) : Oper := { dst := some 0, op := Go.Op.assign (Go.Operand.tmp 22), type := 22, pos := ps0, after := #[{ on := 6, ground := Go.Ground.data }, { on := 6, ground := Go.Ground.chain }, { on := 0, ground := Go.Ground.phase }, { on := 1, ground := Go.Ground.phase }, { on := 2, ground := Go.Ground.phase }, { on := 3, ground := Go.Ground.phase }, { on := 4, ground := Go.Ground.phase }, { on := 5, ground := Go.Ground.phase }, { on := 6, ground := Go.Ground.phase }], guard := none }
def q128aops (ps0 : String) : List Oper := [q128ap0 ps0, q128ap1 ps0, q128ap2 ps0, q128ap3 ps0, q128ap4 ps0, q128ap5 ps0, q128ap6 ps0, q128ap7 ps0]
def q128aA (B : Nat) (W0 wd : World) (v0 : Value) (pre : List Nat) (X : Nat) (x : Ch) (r : Value) : List (Fk 5 B) := [Fk.own W0 v0 pre, Fk.any, Fk.any, Fk.is (.pointer (some ⟨X, 0, none⟩)), Fk.any, Fk.any, Fk.any, Fk.any, Fk.any, Fk.any, Fk.any, Fk.any, Fk.any, Fk.any, Fk.any, Fk.any, Fk.any, Fk.any, Fk.any, Fk.any, Fk.any, Fk.any, Fk.any, Fk.any, Fk.any, Fk.any, Fk.any, Fk.any, Fk.any, Fk.any, Fk.any]
def q128aZ (B : Nat) (W0 wd : World) (v0 : Value) (pre : List Nat) (X : Nat) (x : Ch) (r : Value) : List (Fk 5 B) := [Fk.own W0 v0 (pre ++ (encRow x.row) ++ (encV x.key)), Fk.any, Fk.any, Fk.any, Fk.any, Fk.any, Fk.any, Fk.any, Fk.any, Fk.any, Fk.any, Fk.any, Fk.any, Fk.any, Fk.any, Fk.any, Fk.own W0 v0 pre, Fk.is (.pointer (some ⟨X, 4, none⟩)), Fk.is r, Fk.own W0 v0 (pre ++ (encRow x.row)), Fk.is (.pointer (some ⟨X, 5, none⟩)), Fk.is (vval x.key), Fk.own W0 v0 (pre ++ (encRow x.row) ++ (encV x.key)), Fk.any, Fk.any, Fk.any, Fk.any, Fk.any, Fk.any, Fk.any, Fk.any]
def q128aJ (B : Nat) (W0 wd : World) (v0 : Value) (pre : List Nat) (X : Nat) (x : Ch) (r : Value) (w : World) : Prop := (B ≤ w.heap.size ∧ Below B wd w) ∧ w.heap[X]? = some (.cells (chcells x r).toArray 86 (0, 0))
theorem q128a_reg (ps0 : String) : linB (q128aops ps0).toArray 31 [true, true, true, false, true, true, false, true] [true, false, false, false, false, false, false, false, false, false, false, false, false, false, false, false, false, false, false, false, false, false, false, false, false, false, false, false, false, false, false] [true, false, false, false, false, false, false, false, false, false, false, false, false, false, false, false, true, false, false, true, false, false, true, false, false, false, false, false, false, false, false] [0] = true := by kernel_rfl
theorem q128a_m (ps0 : String) : dstsB (q128aops ps0) 31 = [true, false, false, false, false, false, false, false, false, false, false, false, false, false, false, false, true, true, true, true, true, true, true, false, false, false, false, false, false, false, false] := by kernel_rfl
set_option maxRecDepth 100000 in
theorem q128a_o0 (ps0 : String) (B : Nat) (W0 wd : World) (v0 : Value) (pre : List Nat) (X : Nat) (x : Ch) (r : Value) (hx : DRow B wd r x.row) (hl0 : (pre).length + 20 + 60 * x.row.length ≤ 1099511627776) (hl1 : (pre ++ (encRow x.row)).length + 60 ≤ 1099511627776) : ObL Try.prog (q128aops ps0).toArray 31 (fun t => (q128aA B W0 wd v0 pre X x r).getD t Fk.any) (fun t => (q128aZ B W0 wd v0 pre X x r).getD t Fk.any) (q128aJ B W0 wd v0 pre X x r) true 0 (q128ap0 ps0) := lo_move 0 16 false (.inl rfl) rfl rfl (by decide) (by kernel_rfl) (fun _ _ h => h)
set_option maxRecDepth 100000 in
theorem q128a_o1 (ps0 : String) (B : Nat) (W0 wd : World) (v0 : Value) (pre : List Nat) (X : Nat) (x : Ch) (r : Value) (hx : DRow B wd r x.row) (hl0 : (pre).length + 20 + 60 * x.row.length ≤ 1099511627776) (hl1 : (pre ++ (encRow x.row)).length + 60 ≤ 1099511627776) : ObL Try.prog (q128aops ps0).toArray 31 (fun t => (q128aA B W0 wd v0 pre X x r).getD t Fk.any) (fun t => (q128aZ B W0 wd v0 pre X x r).getD t Fk.any) (q128aJ B W0 wd v0 pre X x r) true 1 (q128ap1 ps0) := lo_field rfl rfl rfl ⟨by decide, false, by kernel_rfl, fun _ _ h => h⟩ (fun w => by go_simp) (fun _ => rfl)
set_option maxRecDepth 100000 in
theorem q128a_o2 (ps0 : String) (B : Nat) (W0 wd : World) (v0 : Value) (pre : List Nat) (X : Nat) (x : Ch) (r : Value) (hx : DRow B wd r x.row) (hl0 : (pre).length + 20 + 60 * x.row.length ≤ 1099511627776) (hl1 : (pre ++ (encRow x.row)).length + 60 ≤ 1099511627776) : ObL Try.prog (q128aops ps0).toArray 31 (fun t => (q128aA B W0 wd v0 pre X x r).getD t Fk.any) (fun t => (q128aZ B W0 wd v0 pre X x r).getD t Fk.any) (q128aJ B W0 wd v0 pre X x r) true 2 (q128ap2 ps0) := lo_load rfl rfl rfl ⟨by decide, true, by kernel_rfl, fun _ _ h => h⟩ (tyRowS hx.1) (fun w hJ => range_row hJ.2 4 [r] rfl) (fun _ _ => rfl)
set_option maxRecDepth 100000 in
theorem q128a_o3 (ps0 : String) (B : Nat) (W0 wd : World) (v0 : Value) (pre : List Nat) (X : Nat) (x : Ch) (r : Value) (hx : DRow B wd r x.row) (hl0 : (pre).length + 20 + 60 * x.row.length ≤ 1099511627776) (hl1 : (pre ++ (encRow x.row)).length + 60 ≤ 1099511627776) : ObL Try.prog (q128aops ps0).toArray 31 (fun t => (q128aA B W0 wd v0 pre X x r).getD t Fk.any) (fun t => (q128aZ B W0 wd v0 pre X x r).getD t Fk.any) (q128aJ B W0 wd v0 pre X x r) false 3 (q128ap3 ps0) := lo_app1 (b := true) (w0 := W0) (v0 := v0) (xs := pre) (ys := encRow x.row) (xv := r) rfl rfl rfl (by decide) (by kernel_rfl) (enter_of Try.func113 (by kernel_rfl) rfl) (fun _ _ h => h) ⟨by decide, true, by kernel_rfl, fun _ _ h => h⟩ rfl (fun w v hJ ho hi => row_app v r x.row (pre) w B ho hi (hx.below hJ.1.2) hJ.1.1 hl0) (fun w hJ => hJ.1.1) (fun _ _ h => h)
set_option maxRecDepth 100000 in
theorem q128a_o4 (ps0 : String) (B : Nat) (W0 wd : World) (v0 : Value) (pre : List Nat) (X : Nat) (x : Ch) (r : Value) (hx : DRow B wd r x.row) (hl0 : (pre).length + 20 + 60 * x.row.length ≤ 1099511627776) (hl1 : (pre ++ (encRow x.row)).length + 60 ≤ 1099511627776) : ObL Try.prog (q128aops ps0).toArray 31 (fun t => (q128aA B W0 wd v0 pre X x r).getD t Fk.any) (fun t => (q128aZ B W0 wd v0 pre X x r).getD t Fk.any) (q128aJ B W0 wd v0 pre X x r) true 4 (q128ap4 ps0) := lo_field rfl rfl rfl ⟨by decide, false, by kernel_rfl, fun _ _ h => h⟩ (fun w => by go_simp) (fun _ => rfl)
set_option maxRecDepth 100000 in
theorem q128a_o5 (ps0 : String) (B : Nat) (W0 wd : World) (v0 : Value) (pre : List Nat) (X : Nat) (x : Ch) (r : Value) (hx : DRow B wd r x.row) (hl0 : (pre).length + 20 + 60 * x.row.length ≤ 1099511627776) (hl1 : (pre ++ (encRow x.row)).length + 60 ≤ 1099511627776) : ObL Try.prog (q128aops ps0).toArray 31 (fun t => (q128aA B W0 wd v0 pre X x r).getD t Fk.any) (fun t => (q128aZ B W0 wd v0 pre X x r).getD t Fk.any) (q128aJ B W0 wd v0 pre X x r) true 5 (q128ap5 ps0) := lo_load rfl rfl rfl ⟨by decide, true, by kernel_rfl, fun _ _ h => h⟩ (tyV x.key) (fun w hJ => range_row hJ.2 5 [.int .i64 x.key.kind, .int .i64 x.key.int, .string x.key.text] rfl) (fun _ _ => rfl)
set_option maxRecDepth 100000 in
theorem q128a_o6 (ps0 : String) (B : Nat) (W0 wd : World) (v0 : Value) (pre : List Nat) (X : Nat) (x : Ch) (r : Value) (hx : DRow B wd r x.row) (hl0 : (pre).length + 20 + 60 * x.row.length ≤ 1099511627776) (hl1 : (pre ++ (encRow x.row)).length + 60 ≤ 1099511627776) : ObL Try.prog (q128aops ps0).toArray 31 (fun t => (q128aA B W0 wd v0 pre X x r).getD t Fk.any) (fun t => (q128aZ B W0 wd v0 pre X x r).getD t Fk.any) (q128aJ B W0 wd v0 pre X x r) false 6 (q128ap6 ps0) := lo_app1 (b := true) (w0 := W0) (v0 := v0) (xs := pre ++ (encRow x.row)) (ys := encV x.key) (xv := vval x.key) rfl rfl rfl (by decide) (by kernel_rfl) (enter_of Try.func117 (by kernel_rfl) rfl) (fun _ _ h => h) ⟨by decide, true, by kernel_rfl, fun _ _ h => h⟩ rfl (fun w v hJ ho hi => cell_app v x.key (pre ++ (encRow x.row)) w ho hl1) (fun w hJ => hJ.1.1) (fun _ _ h => h)
set_option maxRecDepth 100000 in
theorem q128a_o7 (ps0 : String) (B : Nat) (W0 wd : World) (v0 : Value) (pre : List Nat) (X : Nat) (x : Ch) (r : Value) (hx : DRow B wd r x.row) (hl0 : (pre).length + 20 + 60 * x.row.length ≤ 1099511627776) (hl1 : (pre ++ (encRow x.row)).length + 60 ≤ 1099511627776) : ObL Try.prog (q128aops ps0).toArray 31 (fun t => (q128aA B W0 wd v0 pre X x r).getD t Fk.any) (fun t => (q128aZ B W0 wd v0 pre X x r).getD t Fk.any) (q128aJ B W0 wd v0 pre X x r) true 7 (q128ap7 ps0) := lo_move 22 0 true (.inr rfl) rfl rfl (by decide) (by kernel_rfl) (fun _ _ h => h)
set_option maxRecDepth 100000 in
theorem q128a_ob (ps0 : String) (B : Nat) (W0 wd : World) (v0 : Value) (pre : List Nat) (X : Nat) (x : Ch) (r : Value) (hx : DRow B wd r x.row) (hl0 : (pre).length + 20 + 60 * x.row.length ≤ 1099511627776) (hl1 : (pre ++ (encRow x.row)).length + 60 ≤ 1099511627776) : ObLAll Try.prog (q128aops ps0).toArray 31 (fun t => (q128aA B W0 wd v0 pre X x r).getD t Fk.any) (fun t => (q128aZ B W0 wd v0 pre X x r).getD t Fk.any) (q128aJ B W0 wd v0 pre X x r) 0 [true, true, true, false, true, true, false, true] (q128aops ps0) := ⟨q128a_o0 ps0 B W0 wd v0 pre X x r hx hl0 hl1, q128a_o1 ps0 B W0 wd v0 pre X x r hx hl0 hl1, q128a_o2 ps0 B W0 wd v0 pre X x r hx hl0 hl1, q128a_o3 ps0 B W0 wd v0 pre X x r hx hl0 hl1, q128a_o4 ps0 B W0 wd v0 pre X x r hx hl0 hl1, q128a_o5 ps0 B W0 wd v0 pre X x r hx hl0 hl1, q128a_o6 ps0 B W0 wd v0 pre X x r hx hl0 hl1, q128a_o7 ps0 B W0 wd v0 pre X x r hx hl0 hl1, trivial⟩
set_option linter.unusedVariables false
def q128bp0 (ps0 : String) : Oper := { dst := some 23, op := Go.Op.move (Go.Operand.tmp 0), type := 22, pos := ps0, after := #[], guard := none }
def q128bp1 (ps0 : String) : Oper := { dst := some 24, op := Go.Op.fieldAddr 86 (Go.Operand.tmp 3) 6, type := 0, pos := ps0, after := #[], guard := none }
def q128bp2 (ps0 : String) : Oper := { dst := some 25, op := Go.Op.load 3 (Go.Operand.tmp 24), type := 3, pos := ps0, after := #[{ on := 1, ground := Go.Ground.data }], guard := none }
def q128bp3 (ps0 : String) : Oper := { dst := some 26, op := Go.Op.buildSlice 199 1 #[(0, Go.Operand.tmp 25)], type := 199, pos := ps0, after := #[{ on := 2, ground := Go.Ground.data }], guard := none }
def q128bp4 (ps0 : String) : Oper := { dst := some 27, op := Go.Op.call { callee := Go.Callee.value (Go.Operand.func 89), args := #[Go.Operand.tmp 23, Go.Operand.tmp 26], argTypes := #[22, 199] }, type := 22, pos := ps0, after := #[{ on := 0, ground := Go.Ground.data }, { on := 3, ground := Go.Ground.data }], guard := none }
def q128bp5 (ps0 : String) : Oper := { dst := some 28, op := Go.Op.fieldAddr 86 (Go.Operand.tmp 3) 7, type := 0, pos := ps0, after := #[], guard := none }
def q128bp6 (ps0 : String) : Oper := { dst := some 29, op := Go.Op.load 67 (Go.Operand.tmp 28), type := 67, pos := ps0, after := #[{ on := 5, ground := Go.Ground.data }], guard := none }
def q128bp7 (ps0 : String) : Oper := { dst := some 30, op := Go.Op.call { callee := Go.Callee.value (Go.Operand.func 117), args := #[Go.Operand.tmp 27, Go.Operand.tmp 29], argTypes := #[22, 67] }, type := 22, pos := ps0, after := #[{ on := 4, ground := Go.Ground.data }, { on := 6, ground := Go.Ground.data }, { on := 4, ground := Go.Ground.chain }], guard := none }
def q128bp8 (ps0 : String) : Oper := { dst := some 4, op := Go.Op.assign (Go.Operand.tmp 30), type := 22, pos := ps0, after := #[{ on := 7, ground := Go.Ground.data }, { on := 7, ground := Go.Ground.chain }, { on := 0, ground := Go.Ground.phase }, { on := 1, ground := Go.Ground.phase }, { on := 2, ground := Go.Ground.phase }, { on := 3, ground := Go.Ground.phase }, { on := 4, ground := Go.Ground.phase }, { on := 5, ground := Go.Ground.phase }, { on := 6, ground := Go.Ground.phase }, { on := 7, ground := Go.Ground.phase }], guard := none }
def q128bops (ps0 : String) : List Oper := [q128bp0 ps0, q128bp1 ps0, q128bp2 ps0, q128bp3 ps0, q128bp4 ps0, q128bp5 ps0, q128bp6 ps0, q128bp7 ps0, q128bp8 ps0]
def q128bA (B : Nat) (W0 wd : World) (v0 : Value) (pre : List Nat) (X : Nat) (x : Ch) (r : Value) : List (Fk 5 B) := [Fk.own W0 v0 pre, Fk.any, Fk.any, Fk.is (.pointer (some ⟨X, 0, none⟩)), Fk.any, Fk.any, Fk.any, Fk.any, Fk.any, Fk.any, Fk.any, Fk.any, Fk.any, Fk.any, Fk.any, Fk.any, Fk.any, Fk.any, Fk.any, Fk.any, Fk.any, Fk.any, Fk.any, Fk.any, Fk.any, Fk.any, Fk.any, Fk.any, Fk.any, Fk.any, Fk.any]
def q128bZ (B : Nat) (W0 wd : World) (v0 : Value) (pre : List Nat) (X : Nat) (x : Ch) (r : Value) : List (Fk 5 B) := [Fk.any, Fk.any, Fk.any, Fk.any, Fk.own W0 v0 (pre ++ [x.col].flatMap enc ++ (encV x.val)), Fk.any, Fk.any, Fk.any, Fk.any, Fk.any, Fk.any, Fk.any, Fk.any, Fk.any, Fk.any, Fk.any, Fk.any, Fk.any, Fk.any, Fk.any, Fk.any, Fk.any, Fk.any, Fk.own W0 v0 pre, Fk.is (.pointer (some ⟨X, 8, none⟩)), Fk.is (.int .i64 x.col), Fk.blk 1 ([x.col].map (Value.int .i64)) (2) (by decide), Fk.own W0 v0 (pre ++ [x.col].flatMap enc), Fk.is (.pointer (some ⟨X, 9, none⟩)), Fk.is (vval x.val), Fk.own W0 v0 (pre ++ [x.col].flatMap enc ++ (encV x.val))]
def q128bJ (B : Nat) (W0 wd : World) (v0 : Value) (pre : List Nat) (X : Nat) (x : Ch) (r : Value) (w : World) : Prop := (B ≤ w.heap.size ∧ Below B wd w) ∧ w.heap[X]? = some (.cells (chcells x r).toArray 86 (0, 0))
theorem q128b_reg (ps0 : String) : linB (q128bops ps0).toArray 31 [true, true, true, true, false, true, true, false, true] [true, false, false, false, false, false, false, false, false, false, false, false, false, false, false, false, false, false, false, false, false, false, false, false, false, false, false, false, false, false, false] [false, false, false, false, true, false, false, false, false, false, false, false, false, false, false, false, false, false, false, false, false, false, false, true, false, false, false, true, false, false, true] [4] = true := by kernel_rfl
theorem q128b_m (ps0 : String) : dstsB (q128bops ps0) 31 = [false, false, false, false, true, false, false, false, false, false, false, false, false, false, false, false, false, false, false, false, false, false, false, true, true, true, true, true, true, true, true] := by kernel_rfl
set_option maxRecDepth 100000 in
theorem q128b_o0 (ps0 : String) (B : Nat) (W0 wd : World) (v0 : Value) (pre : List Nat) (X : Nat) (x : Ch) (r : Value) (hx : DRow B wd r x.row) (hl0 : (pre).length + 10 * [x.col].length ≤ 1099511627776) (hr1 : ∀ k ∈ [x.col], I64 k) (hl2 : (pre ++ [x.col].flatMap enc).length + 60 ≤ 1099511627776) : ObL Try.prog (q128bops ps0).toArray 31 (fun t => (q128bA B W0 wd v0 pre X x r).getD t Fk.any) (fun t => (q128bZ B W0 wd v0 pre X x r).getD t Fk.any) (q128bJ B W0 wd v0 pre X x r) true 0 (q128bp0 ps0) := lo_move 0 23 false (.inl rfl) rfl rfl (by decide) (by kernel_rfl) (fun _ _ h => h)
set_option maxRecDepth 100000 in
theorem q128b_o1 (ps0 : String) (B : Nat) (W0 wd : World) (v0 : Value) (pre : List Nat) (X : Nat) (x : Ch) (r : Value) (hx : DRow B wd r x.row) (hl0 : (pre).length + 10 * [x.col].length ≤ 1099511627776) (hr1 : ∀ k ∈ [x.col], I64 k) (hl2 : (pre ++ [x.col].flatMap enc).length + 60 ≤ 1099511627776) : ObL Try.prog (q128bops ps0).toArray 31 (fun t => (q128bA B W0 wd v0 pre X x r).getD t Fk.any) (fun t => (q128bZ B W0 wd v0 pre X x r).getD t Fk.any) (q128bJ B W0 wd v0 pre X x r) true 1 (q128bp1 ps0) := lo_field rfl rfl rfl ⟨by decide, false, by kernel_rfl, fun _ _ h => h⟩ (fun w => by go_simp) (fun _ => rfl)
set_option maxRecDepth 100000 in
theorem q128b_o2 (ps0 : String) (B : Nat) (W0 wd : World) (v0 : Value) (pre : List Nat) (X : Nat) (x : Ch) (r : Value) (hx : DRow B wd r x.row) (hl0 : (pre).length + 10 * [x.col].length ≤ 1099511627776) (hr1 : ∀ k ∈ [x.col], I64 k) (hl2 : (pre ++ [x.col].flatMap enc).length + 60 ≤ 1099511627776) : ObL Try.prog (q128bops ps0).toArray 31 (fun t => (q128bA B W0 wd v0 pre X x r).getD t Fk.any) (fun t => (q128bZ B W0 wd v0 pre X x r).getD t Fk.any) (q128bJ B W0 wd v0 pre X x r) true 2 (q128bp2 ps0) := lo_load rfl rfl rfl ⟨by decide, true, by kernel_rfl, fun _ _ h => h⟩ (ty3 x.col) (fun w hJ => range_row hJ.2 8 [.int .i64 x.col] rfl) (fun _ _ => rfl)
set_option maxRecDepth 100000 in
theorem q128b_o3 (ps0 : String) (B : Nat) (W0 wd : World) (v0 : Value) (pre : List Nat) (X : Nat) (x : Ch) (r : Value) (hx : DRow B wd r x.row) (hl0 : (pre).length + 10 * [x.col].length ≤ 1099511627776) (hr1 : ∀ k ∈ [x.col], I64 k) (hl2 : (pre ++ [x.col].flatMap enc).length + 60 ≤ 1099511627776) : ObL Try.prog (q128bops ps0).toArray 31 (fun t => (q128bA B W0 wd v0 pre X x r).getD t Fk.any) (fun t => (q128bZ B W0 wd v0 pre X x r).getD t Fk.any) (q128bJ B W0 wd v0 pre X x r) true 3 (q128bp3 ps0) := lo_ints (by decide) rfl rfl rfl (fun a w hl => by have e0 := OpdV.eval (i := 3) (o := (q128bp3 ps0)) (show OpdV (q128bops ps0).toArray 31 (fun t => (q128bA B W0 wd v0 pre X x r).getD t Fk.any) (fun t => (q128bZ B W0 wd v0 pre X x r).getD t Fk.any) 3 (.tmp 25) (.int .i64 x.col) from ⟨by decide, true, by kernel_rfl, fun _ _ h => h⟩) (by simp [q128bp3, Op.operands]) hl; simp only [List.map_toArray, List.map_cons, List.map_nil, e0]; go_simp) (fun _ _ h => h)
set_option maxRecDepth 100000 in
theorem q128b_o4 (ps0 : String) (B : Nat) (W0 wd : World) (v0 : Value) (pre : List Nat) (X : Nat) (x : Ch) (r : Value) (hx : DRow B wd r x.row) (hl0 : (pre).length + 10 * [x.col].length ≤ 1099511627776) (hr1 : ∀ k ∈ [x.col], I64 k) (hl2 : (pre ++ [x.col].flatMap enc).length + 60 ≤ 1099511627776) : ObL Try.prog (q128bops ps0).toArray 31 (fun t => (q128bA B W0 wd v0 pre X x r).getD t Fk.any) (fun t => (q128bZ B W0 wd v0 pre X x r).getD t Fk.any) (q128bJ B W0 wd v0 pre X x r) false 4 (q128bp4 ps0) := lo_ints2 (b := true) (bx := true) (w0 := W0) (v0 := v0) (xs := pre) (ns := [x.col]) (m := 1) (T := 2) (by decide) rfl rfl rfl (by decide) (by decide) (by kernel_rfl) (by kernel_rfl) (enter_of Try.func89 (by kernel_rfl) rfl) (fun _ _ h => h) (fun _ _ h => h) rfl rfl hr1 hl0 (fun w hJ => hJ.1.1) (fun _ _ h => h)
set_option maxRecDepth 100000 in
theorem q128b_o5 (ps0 : String) (B : Nat) (W0 wd : World) (v0 : Value) (pre : List Nat) (X : Nat) (x : Ch) (r : Value) (hx : DRow B wd r x.row) (hl0 : (pre).length + 10 * [x.col].length ≤ 1099511627776) (hr1 : ∀ k ∈ [x.col], I64 k) (hl2 : (pre ++ [x.col].flatMap enc).length + 60 ≤ 1099511627776) : ObL Try.prog (q128bops ps0).toArray 31 (fun t => (q128bA B W0 wd v0 pre X x r).getD t Fk.any) (fun t => (q128bZ B W0 wd v0 pre X x r).getD t Fk.any) (q128bJ B W0 wd v0 pre X x r) true 5 (q128bp5 ps0) := lo_field rfl rfl rfl ⟨by decide, false, by kernel_rfl, fun _ _ h => h⟩ (fun w => by go_simp) (fun _ => rfl)
set_option maxRecDepth 100000 in
theorem q128b_o6 (ps0 : String) (B : Nat) (W0 wd : World) (v0 : Value) (pre : List Nat) (X : Nat) (x : Ch) (r : Value) (hx : DRow B wd r x.row) (hl0 : (pre).length + 10 * [x.col].length ≤ 1099511627776) (hr1 : ∀ k ∈ [x.col], I64 k) (hl2 : (pre ++ [x.col].flatMap enc).length + 60 ≤ 1099511627776) : ObL Try.prog (q128bops ps0).toArray 31 (fun t => (q128bA B W0 wd v0 pre X x r).getD t Fk.any) (fun t => (q128bZ B W0 wd v0 pre X x r).getD t Fk.any) (q128bJ B W0 wd v0 pre X x r) true 6 (q128bp6 ps0) := lo_load rfl rfl rfl ⟨by decide, true, by kernel_rfl, fun _ _ h => h⟩ (tyV x.val) (fun w hJ => range_row hJ.2 9 [.int .i64 x.val.kind, .int .i64 x.val.int, .string x.val.text] rfl) (fun _ _ => rfl)
set_option maxRecDepth 100000 in
theorem q128b_o7 (ps0 : String) (B : Nat) (W0 wd : World) (v0 : Value) (pre : List Nat) (X : Nat) (x : Ch) (r : Value) (hx : DRow B wd r x.row) (hl0 : (pre).length + 10 * [x.col].length ≤ 1099511627776) (hr1 : ∀ k ∈ [x.col], I64 k) (hl2 : (pre ++ [x.col].flatMap enc).length + 60 ≤ 1099511627776) : ObL Try.prog (q128bops ps0).toArray 31 (fun t => (q128bA B W0 wd v0 pre X x r).getD t Fk.any) (fun t => (q128bZ B W0 wd v0 pre X x r).getD t Fk.any) (q128bJ B W0 wd v0 pre X x r) false 7 (q128bp7 ps0) := lo_app1 (b := true) (w0 := W0) (v0 := v0) (xs := pre ++ [x.col].flatMap enc) (ys := encV x.val) (xv := vval x.val) rfl rfl rfl (by decide) (by kernel_rfl) (enter_of Try.func117 (by kernel_rfl) rfl) (fun _ _ h => h) ⟨by decide, true, by kernel_rfl, fun _ _ h => h⟩ rfl (fun w v hJ ho hi => cell_app v x.val (pre ++ [x.col].flatMap enc) w ho hl2) (fun w hJ => hJ.1.1) (fun _ _ h => h)
set_option maxRecDepth 100000 in
theorem q128b_o8 (ps0 : String) (B : Nat) (W0 wd : World) (v0 : Value) (pre : List Nat) (X : Nat) (x : Ch) (r : Value) (hx : DRow B wd r x.row) (hl0 : (pre).length + 10 * [x.col].length ≤ 1099511627776) (hr1 : ∀ k ∈ [x.col], I64 k) (hl2 : (pre ++ [x.col].flatMap enc).length + 60 ≤ 1099511627776) : ObL Try.prog (q128bops ps0).toArray 31 (fun t => (q128bA B W0 wd v0 pre X x r).getD t Fk.any) (fun t => (q128bZ B W0 wd v0 pre X x r).getD t Fk.any) (q128bJ B W0 wd v0 pre X x r) true 8 (q128bp8 ps0) := lo_move 30 4 true (.inr rfl) rfl rfl (by decide) (by kernel_rfl) (fun _ _ h => h)
set_option maxRecDepth 100000 in
theorem q128b_ob (ps0 : String) (B : Nat) (W0 wd : World) (v0 : Value) (pre : List Nat) (X : Nat) (x : Ch) (r : Value) (hx : DRow B wd r x.row) (hl0 : (pre).length + 10 * [x.col].length ≤ 1099511627776) (hr1 : ∀ k ∈ [x.col], I64 k) (hl2 : (pre ++ [x.col].flatMap enc).length + 60 ≤ 1099511627776) : ObLAll Try.prog (q128bops ps0).toArray 31 (fun t => (q128bA B W0 wd v0 pre X x r).getD t Fk.any) (fun t => (q128bZ B W0 wd v0 pre X x r).getD t Fk.any) (q128bJ B W0 wd v0 pre X x r) 0 [true, true, true, true, false, true, true, false, true] (q128bops ps0) := ⟨q128b_o0 ps0 B W0 wd v0 pre X x r hx hl0 hr1 hl2, q128b_o1 ps0 B W0 wd v0 pre X x r hx hl0 hr1 hl2, q128b_o2 ps0 B W0 wd v0 pre X x r hx hl0 hr1 hl2, q128b_o3 ps0 B W0 wd v0 pre X x r hx hl0 hr1 hl2, q128b_o4 ps0 B W0 wd v0 pre X x r hx hl0 hr1 hl2, q128b_o5 ps0 B W0 wd v0 pre X x r hx hl0 hr1 hl2, q128b_o6 ps0 B W0 wd v0 pre X x r hx hl0 hr1 hl2, q128b_o7 ps0 B W0 wd v0 pre X x r hx hl0 hr1 hl2, q128b_o8 ps0 B W0 wd v0 pre X x r hx hl0 hr1 hl2, trivial⟩
theorem encCh_len (x : Ch) (h : x.row.length ≤ 1000) (hw : x.wf) : (encCh x).length ≤ 100000 := by
  obtain ⟨hw1, hw2, hw3, hw4, hw5⟩ := hw
  unfold encCh
  have h1 := enc_len hw1.1 hw1.2
  have h2 := enc_len hw2.1 hw2.2
  have h3 := enc_len hw3.1 hw3.2
  have h4 := enc_len hw4.1 hw4.2
  have h5 := enc_len hw5.1 hw5.2
  have h6 := encRow_len x.row (by omega)
  have h7 := encV_len x.key
  have h8 := encV_len x.val
  simp only [List.length_append]; omega
set_option maxRecDepth 100000 in
set_option maxHeartbeats 1000000 in
theorem change_app (v r : Value) (x : Ch) (xs : List Nat) (w : World) (B : Nat) (hown : Own w 5 1 v xs.length (bv xs)) (hi : Hi v B) (hr : DRow B w r x.row) (hB : B ≤ w.heap.size) (hw : x.wf) (hrl : x.row.length ≤ 1000) (hl : xs.length + 200000 ≤ 1099511627776) :
    Calls Try.prog 128 #[v, valCh x r] w (AppPost w v (xs ++ encCh x)) := by
  show Calls Try.prog 128 #[v, .agg #[.int .i64 x.kind, .int .i64 x.seq, .int .i64 x.day, .int .i64 x.table, r, .int .i64 x.key.kind, .int .i64 x.key.int, .string x.key.text, .int .i64 x.col, .int .i64 x.val.kind, .int .i64 x.val.int, .string x.val.text]] w _
  obtain ⟨hw1, hw2, hw3, hw4, hw5⟩ := hw
  have h1 := enc_len hw1.1 hw1.2
  have h2 := enc_len hw2.1 hw2.2
  have h3 := enc_len hw3.1 hw3.2
  have h4 := enc_len hw4.1 hw4.2
  have h5 := enc_len hw5.1 hw5.2
  have h6 := encRow_len x.row (by omega)
  have h7 := encV_len x.key
  have hW := hid (And.intro hw5 (And.intro h5 (And.intro h6 h7)))
  have h55 : ([x.col].flatMap enc).length ≤ 10 := by simp only [List.flatMap_cons, List.flatMap_nil, List.append_nil]; exact h5
  have HF5 := hid h55
  have h1234 : ([x.kind, x.seq, x.day, x.table].flatMap enc).length ≤ 40 := by simp only [List.length_append, List.flatMap_cons, List.flatMap_nil, List.append_nil]; omega
  have HF := hid h1234
  have OW := hid hown
  have HI := hid hi
  have HR := hid hr
  obtain ⟨ao, cap, hrv, hnc, hcm⟩ := hr.1.shape
  subst hrv
  clear hown hi hr h1234 h55 h1 h2 h3 h4 h5 h6 h7 hw5
  go_enter Try.func128, Try.ntmps128
  go_wp2_with fail
  refine (intsLH_walk v [x.kind, x.seq, x.day, x.table] xs (w.alloc (.cells #[.int .i64 x.kind, .int .i64 x.seq, .int .i64 x.day, .int .i64 x.table, (.slice ao x.row.length cap), .int .i64 x.key.kind, .int .i64 x.key.int, .string x.key.text, .int .i64 x.col, .int .i64 x.val.kind, .int .i64 x.val.int, .string x.val.text] 86)) _ _ 4 (w.heap.size + 1) (by simp) (OW.out.alloc _) rfl rfl (by simp only [List.mem_cons, List.not_mem_nil, or_false]; rintro k (rfl | rfl | rfl | rfl) <;> assumption) (by simp only [List.length_cons, List.length_nil]; omega)).mono ?_
  rintro e w2 ⟨v2, rfl, hown2, hst2⟩
  have hb2 := Own.row (OW.out.alloc _) hst2 (by decide) (heap_at (w := w) (o := .cells #[.int .i64 x.kind, .int .i64 x.seq, .int .i64 x.day, .int .i64 x.table, (.slice ao x.row.length cap), .int .i64 x.key.kind, .int .i64 x.key.int, .string x.key.text, .int .i64 x.col, .int .i64 x.val.kind, .int .i64 x.val.int, .string x.val.text] 86) rfl)
  have hs2 := Step.grown (World.grownBy_alloc w _ none) hst2
  have O2 := hid hown2
  have S2 := hid hs2
  have B2 := hid hb2
  clear hown2 hst2 hs2 hb2
  go_wp2_with fail
  have hbel2 := HI.out.below S2.out hB
  have hx : DRow B w2 (.slice ao x.row.length cap) x.row := HR.out.below hbel2
  have hi2 := HI.out.step S2.out hB
  have hB2 : B ≤ w2.heap.size := Nat.le_trans hB hbel2.size
  have hl0 : ((xs ++ [x.kind, x.seq, x.day, x.table].flatMap enc)).length + 20 + 60 * x.row.length ≤ 1099511627776 := by have := HF.out; have := HF5.out; have := hW.out; first | omega | (simp only [List.length_append, List.length_cons, List.length_nil]; omega) | (simp only [List.mem_cons, List.not_mem_nil, or_false]; rintro k rfl; exact hW.out.1)
  have hl1 : ((xs ++ [x.kind, x.seq, x.day, x.table].flatMap enc) ++ (encRow x.row)).length + 60 ≤ 1099511627776 := by have := HF.out; have := HF5.out; have := hW.out; first | omega | (simp only [List.length_append, List.length_cons, List.length_nil]; omega) | (simp only [List.mem_cons, List.not_mem_nil, or_false]; rintro k rfl; exact hW.out.1)
  refine region_linl mixed 5 B 31 _ _ _ _ (q128aA B w w2 v (xs ++ [x.kind, x.seq, x.day, x.table].flatMap enc) w.heap.size x (.slice ao x.row.length cap)) (q128aZ B w w2 v (xs ++ [x.kind, x.seq, x.day, x.table].flatMap enc) w.heap.size x (.slice ao x.row.length cap)) (q128aJ B w w2 v (xs ++ [x.kind, x.seq, x.day, x.table].flatMap enc) w.heap.size x (.slice ao x.row.length cap)) (fun w w' hu ⟨⟨h1, h2⟩, h3⟩ => ⟨⟨Nat.le_trans h1 hu.size, h2.trans (hu.below h1)⟩, hu.row (by decide) h3⟩) ?_ ?_ (q128a_reg _) _ (q128a_m _) rfl rfl rfl rfl ?_ (q128a_ob _ B w w2 v (xs ++ [x.kind, x.seq, x.day, x.table].flatMap enc) w.heap.size x (.slice ao x.row.length cap) hx hl0 hl1) ?_
  · exact ⟨⟨hB2, Below.refl _ _⟩, B2.out⟩
  · rfl
  · exact (fun t ht => InitF.at (L := q128aA B w w2 v (xs ++ [x.kind, x.seq, x.day, x.table].flatMap enc) w.heap.size x (.slice ao x.row.length cap)) (by exact ⟨⟨O2.out, S2.out, hi2⟩, trivial, trivial, rfl, trivial, trivial, trivial, trivial, trivial, trivial, trivial, trivial, trivial, trivial, trivial, trivial, trivial, trivial, trivial, trivial, trivial, trivial, trivial, trivial, trivial, trivial, trivial, trivial, trivial, trivial, trivial, trivial⟩) t ht ht)
  intro y w5 hJ5 hk
  have hf : (Fk.own (E := 5) (B := B) w v ((xs ++ [x.kind, x.seq, x.day, x.table].flatMap enc) ++ (encRow x.row) ++ (encV x.key))).on w5 (y 0) := hk 0 (by simp)
  obtain ⟨f1, f2, f3⟩ := hf
  have F1 := hid f1
  have F2 := hid f2
  have F3 := hid f3
  have FJ := hid hJ5
  simp only [frameOf, Bool.false_eq_true, if_false, if_true]
  generalize y 0 = y0 at *
  clear hk f1 f2 f3 hJ5 hx hi2 hB2 hl0 hl1
  go_wp2_with fail
  have hbel5 := HI.out.below F2.out hB
  have hx : DRow B w5 (.slice ao x.row.length cap) x.row := HR.out.below hbel5
  have hl0 : (((xs ++ [x.kind, x.seq, x.day, x.table].flatMap enc) ++ (encRow x.row) ++ (encV x.key))).length + 10 * [x.col].length ≤ 1099511627776 := by have := HF.out; have := HF5.out; have := hW.out; first | omega | (simp only [List.length_append, List.length_cons, List.length_nil]; omega) | (simp only [List.mem_cons, List.not_mem_nil, or_false]; rintro k rfl; exact hW.out.1)
  have hr1 : ∀ k ∈ [x.col], I64 k := by have := HF.out; have := HF5.out; have := hW.out; first | omega | (simp only [List.length_append, List.length_cons, List.length_nil]; omega) | (simp only [List.mem_cons, List.not_mem_nil, or_false]; rintro k rfl; exact hW.out.1)
  have hl2 : (((xs ++ [x.kind, x.seq, x.day, x.table].flatMap enc) ++ (encRow x.row) ++ (encV x.key)) ++ [x.col].flatMap enc).length + 60 ≤ 1099511627776 := by have := HF.out; have := HF5.out; have := hW.out; first | omega | (simp only [List.length_append, List.length_cons, List.length_nil]; omega) | (simp only [List.mem_cons, List.not_mem_nil, or_false]; rintro k rfl; exact hW.out.1)
  refine region_linl mixed 5 B 31 _ _ _ _ (q128bA B w w5 v ((xs ++ [x.kind, x.seq, x.day, x.table].flatMap enc) ++ (encRow x.row) ++ (encV x.key)) w.heap.size x (.slice ao x.row.length cap)) (q128bZ B w w5 v ((xs ++ [x.kind, x.seq, x.day, x.table].flatMap enc) ++ (encRow x.row) ++ (encV x.key)) w.heap.size x (.slice ao x.row.length cap)) (q128bJ B w w5 v ((xs ++ [x.kind, x.seq, x.day, x.table].flatMap enc) ++ (encRow x.row) ++ (encV x.key)) w.heap.size x (.slice ao x.row.length cap)) (fun w w' hu ⟨⟨h1, h2⟩, h3⟩ => ⟨⟨Nat.le_trans h1 hu.size, h2.trans (hu.below h1)⟩, hu.row (by decide) h3⟩) ?_ ?_ (q128b_reg _) _ (q128b_m _) rfl rfl rfl rfl ?_ (q128b_ob _ B w w5 v ((xs ++ [x.kind, x.seq, x.day, x.table].flatMap enc) ++ (encRow x.row) ++ (encV x.key)) w.heap.size x (.slice ao x.row.length cap) hx hl0 hr1 hl2) ?_
  · exact ⟨⟨FJ.out.1.1, Below.refl _ _⟩, FJ.out.2⟩
  · rfl
  · exact (fun t ht => InitF.at (L := q128bA B w w5 v ((xs ++ [x.kind, x.seq, x.day, x.table].flatMap enc) ++ (encRow x.row) ++ (encV x.key)) w.heap.size x (.slice ao x.row.length cap)) (by exact ⟨⟨F1.out, F2.out, F3.out⟩, trivial, trivial, rfl, trivial, trivial, trivial, trivial, trivial, trivial, trivial, trivial, trivial, trivial, trivial, trivial, trivial, trivial, trivial, trivial, trivial, trivial, trivial, trivial, trivial, trivial, trivial, trivial, trivial, trivial, trivial, trivial⟩) t ht ht)
  intro y7 w7 hJ7 hk
  have hf : (Fk.own (E := 5) (B := B) w v (((xs ++ [x.kind, x.seq, x.day, x.table].flatMap enc) ++ (encRow x.row) ++ (encV x.key)) ++ [x.col].flatMap enc ++ (encV x.val))).on w7 (y7 4) := hk 4 (by simp)
  obtain ⟨f1, f2, f3⟩ := hf
  have G1 := hid f1
  have G2 := hid f2
  simp only [frameOf, Bool.false_eq_true, if_false, if_true]
  generalize y7 4 = y4 at *
  clear hk f1 f2 f3 hJ7
  go_wp2
  go_ret
  exact ⟨_, rfl, by unfold encCh; simpa using G1.out, G2.out⟩
end Go.Proofs.Ytkeiffccllfkpaa
