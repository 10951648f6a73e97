/- The law's own named and clean. -/
import Derived.Test.YtkeiffccllfkpaaN9
import Derived.Test.YtkeiffccllfkpaaN11
namespace Go.Proofs.Ytkeiffccllfkpaa
open Go.RowKit
set_option linter.unusedSimpArgs false

set_option maxRecDepth 100000 in
theorem named_walk (x : Idf) (w : World) : Calls Try.prog 63 #[valIdf x] w fun e w' => e = .returned (.bool (decide (x.ns.size ≤ 16))) ∧ w.grownBy w' none := by
  show Calls Try.prog 63 #[.agg #[.string x.ns, .int .i64 x.val.kind, .int .i64 x.val.int, .string x.val.text]] w _
  go_enter Try.func63, Try.ntmps63
  by_cases h : x.ns.size ≤ 16
  all_goals
    go_wp2
    go_ret
    exact ⟨congrArg (fun b => Ending.returned (.bool b)) (by rw [Bool.eq_iff_iff]; simp; omega), World.grownBy_alloc _ _ _⟩
set_option linter.unusedVariables false
def c75p0 (ps0 : String) : Oper := { dst := some 3, op := Go.Op.fieldAddr 103 (Go.Operand.tmp 1) 0, type := 0, pos := ps0, after := #[], guard := none }
def c75p1 (ps0 : String) : Oper := { dst := some 4, op := Go.Op.load 9 (Go.Operand.tmp 3), type := 9, pos := ps0, after := #[{ on := 0, ground := Go.Ground.data }], guard := none }
def c75p2 (ps0 : String) : Oper := { dst := some 5, op := Go.Op.fieldAddr 103 (Go.Operand.tmp 1) 1, type := 0, pos := ps0, after := #[], guard := none }
def c75p3 (ps0 : String) : Oper := { dst := some 6, op := Go.Op.load 67 (Go.Operand.tmp 5), type := 67, pos := ps0, after := #[{ on := 2, ground := Go.Ground.data }], guard := none }
def c75p4 (ps0 : String) : Oper := { dst := some 7, op := Go.Op.call { callee := Go.Callee.value (Go.Operand.func 43), args := #[Go.Operand.tmp 6], argTypes := #[67] }, type := 67, pos := ps0, after := #[{ on := 3, ground := Go.Ground.data }], guard := none }
def c75p5 (ps0 : String) : Oper := { dst := some 8, op := Go.Op.build 103 #[(0, Go.Operand.tmp 4), (1, Go.Operand.tmp 7)], type := 103, pos := ps0, after := #[{ on := 1, ground := Go.Ground.data }, { on := 4, ground := Go.Ground.data }], guard := none }
def c75p6 (ps0 : String) : Oper := { dst := none, op := Go.Op.store 103 (Go.Operand.tmp 2) (Go.Operand.tmp 8), type := 0, pos := ps0, after := #[{ on := 5, ground := Go.Ground.data }, { on := 4, ground := Go.Ground.chain }, { on := 0, ground := Go.Ground.phase }, { on := 1, ground := Go.Ground.phase }, { on := 2, ground := Go.Ground.phase }, { on := 3, ground := Go.Ground.phase }, { on := 4, ground := Go.Ground.phase }, { on := 5, ground := Go.Ground.phase }], guard := none }
def c75ops (ps0 : String) : List Oper := [c75p0 ps0, c75p1 ps0, c75p2 ps0, c75p3 ps0, c75p4 ps0, c75p5 ps0]
def c75F (x : Idf) (X : Nat) : List Value := [undef, (.pointer (some ⟨X, 0, none⟩)), undef, (.pointer (some ⟨X, 0, none⟩)), (.string x.ns), (.pointer (some ⟨X, 1, none⟩)), (vval x.val), (vval x.val.clean), (valIdf x.clean)]
def c75L (x : Idf) (X : Nat) : List Sp := [Sp.any, Sp.is (.pointer (some ⟨X, 0, none⟩)), Sp.any, Sp.is (.pointer (some ⟨X, 0, none⟩)), Sp.is (.string x.ns), Sp.is (.pointer (some ⟨X, 1, none⟩)), Sp.is (vval x.val), Sp.is (vval x.val.clean), Sp.is (valIdf x.clean)]
theorem c75_reg (ps0 : String) : regB (c75ops ps0 ++ [c75p6 ps0]).toArray 9 = true := by kernel_rfl
theorem c75_lb (ps0 : String) : lastB (c75p6 ps0) 6 = true := by kernel_rfl
theorem c75_m (ps0 : String) : dstsB (c75ops ps0) 9 = [false, false, false, true, true, true, true, true, true] := by kernel_rfl
set_option maxRecDepth 100000 in
theorem c75_o0 (ps0 : String) (x : Idf) (X : Nat) (w0 : World) (hX : w0.heap[X]? = some (.cells #[.string x.ns, .int .i64 x.val.kind, .int .i64 x.val.int, .string x.val.text] 103 (0, 0))) : Ob Try.prog (c75ops ps0 ++ [c75p6 ps0]).toArray (c75L x X) 9 w0 (c75p0 ps0) := ob_fieldAddr rfl rfl trivial ⟨by decide, fun _ _ h => h⟩ (fun w => by go_simp) (fun _ => rfl)
set_option maxRecDepth 100000 in
theorem c75_o1 (ps0 : String) (x : Idf) (X : Nat) (w0 : World) (hX : w0.heap[X]? = some (.cells #[.string x.ns, .int .i64 x.val.kind, .int .i64 x.val.int, .string x.val.text] 103 (0, 0))) : Ob Try.prog (c75ops ps0 ++ [c75p6 ps0]).toArray (c75L x X) 9 w0 (c75p1 ps0) := ob_load rfl rfl trivial ⟨by decide, fun _ _ h => h⟩ (tyStr x.ns) (range_row hX 0 [.string x.ns] rfl) (fun _ _ => rfl)
set_option maxRecDepth 100000 in
theorem c75_o2 (ps0 : String) (x : Idf) (X : Nat) (w0 : World) (hX : w0.heap[X]? = some (.cells #[.string x.ns, .int .i64 x.val.kind, .int .i64 x.val.int, .string x.val.text] 103 (0, 0))) : Ob Try.prog (c75ops ps0 ++ [c75p6 ps0]).toArray (c75L x X) 9 w0 (c75p2 ps0) := ob_fieldAddr rfl rfl trivial ⟨by decide, fun _ _ h => h⟩ (fun w => by go_simp) (fun _ => rfl)
set_option maxRecDepth 100000 in
theorem c75_o3 (ps0 : String) (x : Idf) (X : Nat) (w0 : World) (hX : w0.heap[X]? = some (.cells #[.string x.ns, .int .i64 x.val.kind, .int .i64 x.val.int, .string x.val.text] 103 (0, 0))) : Ob Try.prog (c75ops ps0 ++ [c75p6 ps0]).toArray (c75L x X) 9 w0 (c75p3 ps0) := ob_load rfl rfl trivial ⟨by decide, fun _ _ h => h⟩ (tyV x.val) (range_row hX 1 [.int .i64 x.val.kind, .int .i64 x.val.int, .string x.val.text] rfl) (fun _ _ => rfl)
set_option maxRecDepth 100000 in
theorem c75_o4 (ps0 : String) (x : Idf) (X : Nat) (w0 : World) (hX : w0.heap[X]? = some (.cells #[.string x.ns, .int .i64 x.val.kind, .int .i64 x.val.int, .string x.val.text] 103 (0, 0))) : Ob Try.prog (c75ops ps0 ++ [c75p6 ps0]).toArray (c75L x X) 9 w0 (c75p4 ps0) := ob_call2 [(vval x.val)] rfl rfl trivial ⟨⟨by decide, fun _ _ h => h⟩, trivial⟩ (fun w hw => (rclean_walk x.val w).mono fun e w1 ⟨he, hg⟩ => ⟨_, he, hg, rfl⟩) (enter_of Try.func43 (by kernel_rfl) rfl)
set_option maxRecDepth 100000 in
theorem c75_o5 (ps0 : String) (x : Idf) (X : Nat) (w0 : World) (hX : w0.heap[X]? = some (.cells #[.string x.ns, .int .i64 x.val.kind, .int .i64 x.val.int, .string x.val.text] 103 (0, 0))) : Ob Try.prog (c75ops ps0 ++ [c75p6 ps0]).toArray (c75L x X) 9 w0 (c75p5 ps0) := ob_run trivial fun a w hw hl hsz => by
  have e4 : a.eval (.tmp 4) = .string x.ns := hl 4 (by simp [Oper.looksAt, c75p5, Op.operands]) (by decide)
  have e7 : a.eval (.tmp 7) = .agg #[.int .i64 x.val.clean.kind, .int .i64 x.val.clean.int, .string x.val.clean.text] := hl 7 (by simp [Oper.looksAt, c75p5, Op.operands]) (by decide)
  refine ⟨valIdf x.clean, ?_, fun d hd => ?_⟩
  · simp only [execOp, c75p5, List.map_toArray, List.map_cons, List.map_nil, e4, e7]
    simp only [valIdf, idfcells, Idf.clean]
    go_simp
  · obtain rfl := Option.some.inj hd
    exact rfl
set_option maxRecDepth 100000 in
theorem c75_ob (ps0 : String) (x : Idf) (X : Nat) (w0 : World) (hX : w0.heap[X]? = some (.cells #[.string x.ns, .int .i64 x.val.kind, .int .i64 x.val.int, .string x.val.text] 103 (0, 0))) : ObAll Try.prog (c75ops ps0 ++ [c75p6 ps0]).toArray (c75L x X) 9 w0 (c75ops ps0) := ⟨c75_o0 ps0 x X w0 hX, c75_o1 ps0 x X w0 hX, c75_o2 ps0 x X w0 hX, c75_o3 ps0 x X w0 hX, c75_o4 ps0 x X w0 hX, c75_o5 ps0 x X w0 hX, trivial⟩

set_option maxRecDepth 100000 in
theorem cleanI_walk (x : Idf) (w : World) : Calls Try.prog 75 #[valIdf x] w fun e w' => e = .returned (valIdf x.clean) ∧ w.grownBy w' none := by
  show Calls Try.prog 75 #[.agg #[.string x.ns, .int .i64 x.val.kind, .int .i64 x.val.int, .string x.val.text]] w _
  go_enter Try.func75, Try.ntmps75
  go_wp2
  have ga := World.grownBy_alloc w (.cells #[.string x.ns, .int .i64 x.val.kind, .int .i64 x.val.int, .string x.val.text] 103) none
  have gb := World.grownBy_alloc (w.alloc (.cells #[.string x.ns, .int .i64 x.val.kind, .int .i64 x.val.int, .string x.val.text] 103)) (.cells #[.string ⟨#[]⟩, .int .i64 0, .int .i64 0, .string ⟨#[]⟩] 103) none
  have hX := row_of gb (heap_at (w := w) (o := (.cells #[.string x.ns, .int .i64 x.val.kind, .int .i64 x.val.int, .string x.val.text] 103)) rfl) (by simp)
  have hY := heap_at (w := w.alloc (.cells #[.string x.ns, .int .i64 x.val.kind, .int .i64 x.val.int, .string x.val.text] 103)) (o := (.cells #[.string ⟨#[]⟩, .int .i64 0, .int .i64 0, .string ⟨#[]⟩] 103)) (n := w.heap.size + 1) (by simp)
  have g1 := grown_trans ga gb
  generalize (w.alloc (.cells #[.string x.ns, .int .i64 x.val.kind, .int .i64 x.val.int, .string x.val.text] 103)).alloc (.cells #[.string ⟨#[]⟩, .int .i64 0, .int .i64 0, .string ⟨#[]⟩] 103) = W at *
  refine region_last mixed (c75L x w.heap.size) _ (c75_reg _) (c75_lb _) (c75_m _) ?_ ?_ (c75_ob _ x w.heap.size _ hX) ?_
  · rfl
  · exact ⟨.inr trivial, .inr rfl, .inr trivial, .inl rfl, .inl rfl, .inl rfl, .inl rfl, .inl rfl, .inl rfl, trivial⟩
  intro x3 w3 hg3 hk3
  have h8 : x3 8 = valIdf x.clean := hk3 8 (by show 8 < 9; decide)
  simp only [frameOf, Bool.false_eq_true, if_false, if_true]
  rw [h8]
  have hY3 := row_of hg3 hY (by simp)
  refine wpList_storeTYg rfl 103 (.tmp 2) (.tmp 8) rfl rfl rfl (tyIdf x.clean) hY3 rfl ?_
  intro w4 hg4 hb4
  have G4 := hid (grown_newR (grown_trans g1 hg3) hg4 (by omega))
  have B4 := hid hb4
  clear hk3 h8 hg3 hY3 hg4 hb4 hX hY ga gb g1
  show wpList _ _ _ [] _ _
  go_wp2
  exact ret_cell rfl rfl (tyIdf x.clean) B4.out rfl ⟨rfl, G4.out⟩
end Go.Proofs.Ytkeiffccllfkpaa
