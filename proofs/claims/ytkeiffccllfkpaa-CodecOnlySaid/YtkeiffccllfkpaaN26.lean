/- AppendEntry, normal. -/
import Derived.Test.YtkeiffccllfkpaaN25
import Derived.Test.YtkeiffccllfkpaaLaw13
namespace Go.Proofs.Ytkeiffccllfkpaa
open Go.RowKit
set_option linter.unusedSimpArgs false

set_option maxRecDepth 100000 in
theorem recAEntry_walk (w : World) : CallsD Try.prog 162 #[] .returning w fun e u' w' => e = .returned (.tuple #[]) ∧ u' = .returning ∧ w' = w := by
  refine callsD_of_wpS Try.func162 rfl fun c₀ cs hu => ?_
  apply wpS_region
  simp [wpOpsS, go_sem, recoverD, hu, Try.ntmps162]
  cases c₀
  simp_all [bodyPostS, results, Try.results162]
set_option maxRecDepth 100000 in
theorem appendEntry_walk (e : LE) (v s : Value) (w : World) (hv : Sl w 3 v e.vers.length (e.vers.flatMap vercells) ∧ Lo v w.heap.size) (hs : Sl w 2 s e.srcs.length (e.srcs.flatMap srccells) ∧ Lo s w.heap.size) (hw : e.wf) (hsm : e.small) (hel : (encLE e).length ≤ 1099511627776) :
    Calls Try.prog 85 #[nilS, leval e v s] w fun en w' => ∃ v', en = .returned v' ∧ Own w' 5 1 v' (encLE e).length (bv (encLE e)) ∧ Fresh w w' v' := by
  have hep := encLE_pos e
  have ga := World.grownBy_alloc w (.cells (lecells e v s).toArray 111) none
  have hz : (w.alloc (.cells (lecells e v s).toArray 111)).heap.size = w.heap.size + 1 := by simp
  have AP := hid (entry_app v s e (w.alloc (.cells (lecells e v s).toArray 111)) ⟨hv.1.kn ga, hv.2.mono (by omega)⟩ ⟨hs.1.kn ga, hs.2.mono (by omega)⟩ hw hsm)
  have HT := hid (tyLE (e := e) (slice_one hv.1) (slice_one hs.1) hw.root.1)
  have HB := hid (heap_at (w := w) (o := .cells (lecells e v s).toArray 111) rfl)
  obtain ⟨V, hV⟩ : ∃ V, V = leval e v s := ⟨_, rfl⟩
  have hVC : leval e v s = .agg (lecells e v s).toArray := rfl
  rw [← hV] at AP HT
  rw [hVC]
  generalize lecells e v s = C at *
  clear hV hVC hv hs hw hsm
  go_enter_defers Try.func85, Try.ntmps85
  go_wp2_with (first | (refine wpList_loadTY rfl 111 (.tmp 3) rfl rfl HT.out HB.out ?_) | fail)
  refine AP.out.mono ?_
  rintro en w1 ⟨v1, rfl, hown1, hg1⟩
  have g01 := grown_trans ga (Step.none hg1)
  go_wp2_with fail
  refine (extend_walk nilS v1 [] (encLE e) _ (Sl.nil _ _) (Sl.of_own hown1) hep (by simpa using hel)).mono ?_
  rintro en w2 ⟨v2, rfl, hown2, hg2⟩
  rw [List.nil_append] at hown2
  go_wp2
  refine leaves_cons (f := 162) (args := #[]) (by simp) (by simp [go_sem]) ?_
  refine (recAEntry_walk _).mono ?_
  rintro en u' w'' ⟨rfl, rfl, rfl⟩
  exact ⟨v2, results_tmp (t := 4) rfl _ _ _, _, rfl, hown2, Step.grown g01 hg2⟩

/-- the blocks of normal: the argument C, the result, the entry that is built D -/
structure NF (w wr : World) (C D : List Value) : Prop where
  g : w.grownBy wr none
  x : wr.heap[w.heap.size]? = some (.cells C.toArray 111 (0, 0))
  o : wr.heap[w.heap.size + 1]? = some (.cells Try.zeroCells111 111 (0, 0))
  d : wr.heap[w.heap.size + 1 + 1]? = some (.cells D.toArray 111 (0, 0))
theorem NF.call {w wr w' : World} {C D : List Value} (h : NF w wr C D) (g : wr.grownBy w' none) : NF w w' C D :=
  ⟨grown_trans h.g g, row_of g h.x (by simp), row_of g h.o (by simp), row_of g h.d (by simp)⟩
theorem NF.write {w wr w' : World} {C D D' : List Value} (h : NF w wr C D) (g : wr.grownBy w' (some (w.heap.size + 1 + 1))) (hd : w'.heap[w.heap.size + 1 + 1]? = some (.cells D'.toArray 111 (0, 0))) : NF w w' C D' :=
  ⟨grown_newR h.g g (by omega), row_of g h.x (by simp; omega), row_of g h.o (by simp), hd⟩
theorem leB_arr (k d p s : Int) : (((Try.zeroCells111.setIfInBounds 0 (.int .i64 k)).setIfInBounds 1 (.int .i64 d)).setIfInBounds 2 (.int .i64 p)).setIfInBounds 3 (.int .i64 s) = (lecells (LE.base k d p s) nilS nilS).toArray := by
  rw [← leZ_arr]
  rfl
set_option linter.unusedVariables false
def n86p0 (ps0 : String) : Oper := { dst := some 41, op := Go.Op.fieldAddr 111 (Go.Operand.tmp 1) 5, type := 0, pos := ps0, after := #[], guard := none }
def n86p1 (ps0 : String) : Oper := { dst := some 42, op := Go.Op.fieldAddr 107 (Go.Operand.tmp 41) 0, type := 0, pos := ps0, after := #[{ on := 0, ground := Go.Ground.data }], guard := none }
def n86p2 (ps0 : String) : Oper := { dst := some 43, op := Go.Op.load 103 (Go.Operand.tmp 42), type := 103, pos := ps0, after := #[{ on := 1, ground := Go.Ground.data }], guard := none }
def n86p3 (ps0 : String) : Oper := { dst := some 44, op := Go.Op.call { callee := Go.Callee.value (Go.Operand.func 75), args := #[Go.Operand.tmp 43], argTypes := #[103] }, type := 103, pos := ps0, after := #[{ on := 2, ground := Go.Ground.data }], guard := none }
def n86p4 (ps0 : String) : Oper := { dst := some 45, op := Go.Op.fieldAddr 111 (Go.Operand.tmp 1) 5, type := 0, pos := ps0, after := #[], guard := none }
def n86p5 (ps0 : String) : Oper := { dst := some 46, op := Go.Op.fieldAddr 107 (Go.Operand.tmp 45) 1, type := 0, pos := ps0, after := #[{ on := 4, ground := Go.Ground.data }], guard := none }
def n86p6 (ps0 : String) : Oper := { dst := some 47, op := Go.Op.load 103 (Go.Operand.tmp 46), type := 103, pos := ps0, after := #[{ on := 5, ground := Go.Ground.data }], guard := none }
def n86p7 (ps0 : String) : Oper := { dst := some 48, op := Go.Op.call { callee := Go.Callee.value (Go.Operand.func 75), args := #[Go.Operand.tmp 47], argTypes := #[103] }, type := 103, pos := ps0, after := #[{ on := 6, ground := Go.Ground.data }, { on := 3, ground := Go.Ground.chain }], guard := none }
def n86p8 (ps0 : String) : Oper := { dst := some 49, op := Go.Op.fieldAddr 111 (Go.Operand.tmp 1) 5, type := 0, pos := ps0, after := #[], guard := none }
def n86p9 (ps0 : String) : Oper := { dst := some 50, op := Go.Op.fieldAddr 107 (Go.Operand.tmp 49) 2, type := 0, pos := ps0, after := #[{ on := 8, ground := Go.Ground.data }], guard := none }
def n86p10 (ps0 : String) : Oper := { dst := some 51, op := Go.Op.load 3 (Go.Operand.tmp 50), type := 3, pos := ps0, after := #[{ on := 9, ground := Go.Ground.data }], guard := none }
def n86p11 (ps0 : String) : Oper := { dst := some 52, op := Go.Op.fieldAddr 111 (Go.Operand.tmp 1) 5, type := 0, pos := ps0, after := #[], guard := none }
def n86p12 (ps0 : String) : Oper := { dst := some 53, op := Go.Op.fieldAddr 107 (Go.Operand.tmp 52) 3, type := 0, pos := ps0, after := #[{ on := 11, ground := Go.Ground.data }], guard := none }
def n86p13 (ps0 : String) : Oper := { dst := some 54, op := Go.Op.load 4 (Go.Operand.tmp 53), type := 4, pos := ps0, after := #[{ on := 12, ground := Go.Ground.data }], guard := none }
def n86p14 (ps0 : String) : Oper := { dst := some 55, op := Go.Op.build 107 #[(0, Go.Operand.tmp 44), (1, Go.Operand.tmp 48), (2, Go.Operand.tmp 51), (3, Go.Operand.tmp 54)], type := 107, pos := ps0, after := #[{ on := 3, ground := Go.Ground.data }, { on := 7, ground := Go.Ground.data }, { on := 10, ground := Go.Ground.data }, { on := 13, ground := Go.Ground.data }], guard := none }
def n86p15 (ps0 : String) : Oper := { dst := some 56, op := Go.Op.fieldAddr 111 (Go.Operand.tmp 3) 5, type := 0, pos := ps0, after := #[{ on := 0, ground := Go.Ground.phase }, { on := 1, ground := Go.Ground.phase }, { on := 2, ground := Go.Ground.phase }, { on := 3, ground := Go.Ground.phase }, { on := 4, ground := Go.Ground.phase }, { on := 5, ground := Go.Ground.phase }, { on := 6, ground := Go.Ground.phase }, { on := 7, ground := Go.Ground.phase }, { on := 8, ground := Go.Ground.phase }, { on := 9, ground := Go.Ground.phase }, { on := 10, ground := Go.Ground.phase }, { on := 11, ground := Go.Ground.phase }, { on := 12, ground := Go.Ground.phase }, { on := 13, ground := Go.Ground.phase }, { on := 14, ground := Go.Ground.phase }], guard := none }
def n86p16 (ps0 : String) : Oper := { dst := none, op := Go.Op.store 107 (Go.Operand.tmp 56) (Go.Operand.tmp 55), type := 0, pos := ps0, after := #[{ on := 15, ground := Go.Ground.data }, { on := 14, ground := Go.Ground.data }, { on := 7, ground := Go.Ground.chain }, { on := 0, ground := Go.Ground.phase }, { on := 1, ground := Go.Ground.phase }, { on := 2, ground := Go.Ground.phase }, { on := 3, ground := Go.Ground.phase }, { on := 4, ground := Go.Ground.phase }, { on := 5, ground := Go.Ground.phase }, { on := 6, ground := Go.Ground.phase }, { on := 7, ground := Go.Ground.phase }, { on := 8, ground := Go.Ground.phase }, { on := 9, ground := Go.Ground.phase }, { on := 10, ground := Go.Ground.phase }, { on := 11, ground := Go.Ground.phase }, { on := 12, ground := Go.Ground.phase }, { on := 13, ground := Go.Ground.phase }, { on := 14, ground := Go.Ground.phase }], guard := none }
def n86ops (ps0 : String) : List Oper := [n86p0 ps0, n86p1 ps0, n86p2 ps0, n86p3 ps0, n86p4 ps0, n86p5 ps0, n86p6 ps0, n86p7 ps0, n86p8 ps0, n86p9 ps0, n86p10 ps0, n86p11 ps0, n86p12 ps0, n86p13 ps0, n86p14 ps0, n86p15 ps0]
def n86F (e : LE) (vv ss : Value) (X Y : Nat) : List Value := [undef, (.pointer (some ⟨X, 0, none⟩)), undef, (.pointer (some ⟨Y, 0, none⟩)), undef, undef, undef, undef, undef, undef, undef, undef, undef, undef, undef, undef, undef, undef, undef, undef, undef, undef, undef, undef, undef, undef, undef, undef, undef, undef, undef, undef, undef, undef, undef, undef, undef, undef, undef, undef, undef, (.pointer (some ⟨X, 12, none⟩)), (.pointer (some ⟨X, 12, none⟩)), (valIdf e.lnk.a), (valIdf e.lnk.a.clean), (.pointer (some ⟨X, 12, none⟩)), (.pointer (some ⟨X, 16, none⟩)), (valIdf e.lnk.b), (valIdf e.lnk.b.clean), (.pointer (some ⟨X, 12, none⟩)), (.pointer (some ⟨X, 20, none⟩)), (.int .i64 e.lnk.seq), (.pointer (some ⟨X, 12, none⟩)), (.pointer (some ⟨X, 21, none⟩)), (.bool e.lnk.rev), (valLnk e.lnk.clean), (.pointer (some ⟨Y, 12, none⟩)), undef, undef, undef, undef, undef, undef, undef, undef, undef, undef, undef, undef]
def n86L (e : LE) (vv ss : Value) (X Y : Nat) : List Sp := [Sp.any, Sp.is (.pointer (some ⟨X, 0, none⟩)), Sp.any, Sp.is (.pointer (some ⟨Y, 0, none⟩)), Sp.any, Sp.any, Sp.any, Sp.any, Sp.any, Sp.any, Sp.any, Sp.any, Sp.any, Sp.any, Sp.any, Sp.any, Sp.any, Sp.any, Sp.any, Sp.any, Sp.any, Sp.any, Sp.any, Sp.any, Sp.any, Sp.any, Sp.any, Sp.any, Sp.any, Sp.any, Sp.any, Sp.any, Sp.any, Sp.any, Sp.any, Sp.any, Sp.any, Sp.any, Sp.any, Sp.any, Sp.any, Sp.is (.pointer (some ⟨X, 12, none⟩)), Sp.is (.pointer (some ⟨X, 12, none⟩)), Sp.is (valIdf e.lnk.a), Sp.is (valIdf e.lnk.a.clean), Sp.is (.pointer (some ⟨X, 12, none⟩)), Sp.is (.pointer (some ⟨X, 16, none⟩)), Sp.is (valIdf e.lnk.b), Sp.is (valIdf e.lnk.b.clean), Sp.is (.pointer (some ⟨X, 12, none⟩)), Sp.is (.pointer (some ⟨X, 20, none⟩)), Sp.is (.int .i64 e.lnk.seq), Sp.is (.pointer (some ⟨X, 12, none⟩)), Sp.is (.pointer (some ⟨X, 21, none⟩)), Sp.is (.bool e.lnk.rev), Sp.is (valLnk e.lnk.clean), Sp.is (.pointer (some ⟨Y, 12, none⟩)), Sp.any, Sp.any, Sp.any, Sp.any, Sp.any, Sp.any, Sp.any, Sp.any, Sp.any, Sp.any, Sp.any, Sp.any]
theorem n86_reg (ps0 : String) : regB (n86ops ps0 ++ [n86p16 ps0]).toArray 69 = true := by kernel_rfl
theorem n86_lb (ps0 : String) : lastB (n86p16 ps0) 16 = true := by kernel_rfl
theorem n86_m (ps0 : String) : dstsB (n86ops ps0) 69 = [false, false, false, false, false, false, false, false, false, false, false, false, false, false, false, false, false, false, false, false, false, false, false, false, false, false, false, false, false, false, false, false, false, false, false, false, false, false, false, false, false, true, true, true, true, true, true, true, true, true, true, true, true, true, true, true, true, false, false, false, false, false, false, false, false, false, false, false, false] := by kernel_rfl
set_option maxRecDepth 100000 in
theorem n86_o0 (ps0 : String) (e : LE) (vv ss : Value) (X Y : Nat) (w0 : World) (hX : w0.heap[X]? = some (.cells (lecells e vv ss).toArray 111 (0, 0))) : Ob Try.prog (n86ops ps0 ++ [n86p16 ps0]).toArray (n86L e vv ss X Y) 69 w0 (n86p0 ps0) := ob_fieldAddr rfl rfl trivial ⟨by decide, fun _ _ h => h⟩ (fun w => by go_simp) (fun _ => rfl)
set_option maxRecDepth 100000 in
theorem n86_o1 (ps0 : String) (e : LE) (vv ss : Value) (X Y : Nat) (w0 : World) (hX : w0.heap[X]? = some (.cells (lecells e vv ss).toArray 111 (0, 0))) : Ob Try.prog (n86ops ps0 ++ [n86p16 ps0]).toArray (n86L e vv ss X Y) 69 w0 (n86p1 ps0) := ob_fieldAddr rfl rfl trivial ⟨by decide, fun _ _ h => h⟩ (fun w => by go_simp) (fun _ => rfl)
set_option maxRecDepth 100000 in
theorem n86_o2 (ps0 : String) (e : LE) (vv ss : Value) (X Y : Nat) (w0 : World) (hX : w0.heap[X]? = some (.cells (lecells e vv ss).toArray 111 (0, 0))) : Ob Try.prog (n86ops ps0 ++ [n86p16 ps0]).toArray (n86L e vv ss X Y) 69 w0 (n86p2 ps0) := ob_load rfl rfl trivial ⟨by decide, fun _ _ h => h⟩ (tyIdf e.lnk.a) (range_row hX 12 (idfcells e.lnk.a) rfl) (fun _ _ => rfl)
set_option maxRecDepth 100000 in
theorem n86_o3 (ps0 : String) (e : LE) (vv ss : Value) (X Y : Nat) (w0 : World) (hX : w0.heap[X]? = some (.cells (lecells e vv ss).toArray 111 (0, 0))) : Ob Try.prog (n86ops ps0 ++ [n86p16 ps0]).toArray (n86L e vv ss X Y) 69 w0 (n86p3 ps0) := ob_call2 [(valIdf e.lnk.a)] rfl rfl trivial ⟨⟨by decide, fun _ _ h => h⟩, trivial⟩ (fun w hw => (cleanI_walk e.lnk.a w).mono fun en w1 ⟨he, hg⟩ => ⟨_, he, hg, rfl⟩) (enter_of Try.func75 (by kernel_rfl) rfl)
set_option maxRecDepth 100000 in
theorem n86_o4 (ps0 : String) (e : LE) (vv ss : Value) (X Y : Nat) (w0 : World) (hX : w0.heap[X]? = some (.cells (lecells e vv ss).toArray 111 (0, 0))) : Ob Try.prog (n86ops ps0 ++ [n86p16 ps0]).toArray (n86L e vv ss X Y) 69 w0 (n86p4 ps0) := ob_fieldAddr rfl rfl trivial ⟨by decide, fun _ _ h => h⟩ (fun w => by go_simp) (fun _ => rfl)
set_option maxRecDepth 100000 in
theorem n86_o5 (ps0 : String) (e : LE) (vv ss : Value) (X Y : Nat) (w0 : World) (hX : w0.heap[X]? = some (.cells (lecells e vv ss).toArray 111 (0, 0))) : Ob Try.prog (n86ops ps0 ++ [n86p16 ps0]).toArray (n86L e vv ss X Y) 69 w0 (n86p5 ps0) := ob_fieldAddr rfl rfl trivial ⟨by decide, fun _ _ h => h⟩ (fun w => by go_simp) (fun _ => rfl)
set_option maxRecDepth 100000 in
theorem n86_o6 (ps0 : String) (e : LE) (vv ss : Value) (X Y : Nat) (w0 : World) (hX : w0.heap[X]? = some (.cells (lecells e vv ss).toArray 111 (0, 0))) : Ob Try.prog (n86ops ps0 ++ [n86p16 ps0]).toArray (n86L e vv ss X Y) 69 w0 (n86p6 ps0) := ob_load rfl rfl trivial ⟨by decide, fun _ _ h => h⟩ (tyIdf e.lnk.b) (range_row hX 16 (idfcells e.lnk.b) rfl) (fun _ _ => rfl)
set_option maxRecDepth 100000 in
theorem n86_o7 (ps0 : String) (e : LE) (vv ss : Value) (X Y : Nat) (w0 : World) (hX : w0.heap[X]? = some (.cells (lecells e vv ss).toArray 111 (0, 0))) : Ob Try.prog (n86ops ps0 ++ [n86p16 ps0]).toArray (n86L e vv ss X Y) 69 w0 (n86p7 ps0) := ob_call2 [(valIdf e.lnk.b)] rfl rfl trivial ⟨⟨by decide, fun _ _ h => h⟩, trivial⟩ (fun w hw => (cleanI_walk e.lnk.b w).mono fun en w1 ⟨he, hg⟩ => ⟨_, he, hg, rfl⟩) (enter_of Try.func75 (by kernel_rfl) rfl)
set_option maxRecDepth 100000 in
theorem n86_o8 (ps0 : String) (e : LE) (vv ss : Value) (X Y : Nat) (w0 : World) (hX : w0.heap[X]? = some (.cells (lecells e vv ss).toArray 111 (0, 0))) : Ob Try.prog (n86ops ps0 ++ [n86p16 ps0]).toArray (n86L e vv ss X Y) 69 w0 (n86p8 ps0) := ob_fieldAddr rfl rfl trivial ⟨by decide, fun _ _ h => h⟩ (fun w => by go_simp) (fun _ => rfl)
set_option maxRecDepth 100000 in
theorem n86_o9 (ps0 : String) (e : LE) (vv ss : Value) (X Y : Nat) (w0 : World) (hX : w0.heap[X]? = some (.cells (lecells e vv ss).toArray 111 (0, 0))) : Ob Try.prog (n86ops ps0 ++ [n86p16 ps0]).toArray (n86L e vv ss X Y) 69 w0 (n86p9 ps0) := ob_fieldAddr rfl rfl trivial ⟨by decide, fun _ _ h => h⟩ (fun w => by go_simp) (fun _ => rfl)
set_option maxRecDepth 100000 in
theorem n86_o10 (ps0 : String) (e : LE) (vv ss : Value) (X Y : Nat) (w0 : World) (hX : w0.heap[X]? = some (.cells (lecells e vv ss).toArray 111 (0, 0))) : Ob Try.prog (n86ops ps0 ++ [n86p16 ps0]).toArray (n86L e vv ss X Y) 69 w0 (n86p10 ps0) := ob_load rfl rfl trivial ⟨by decide, fun _ _ h => h⟩ (ty3 e.lnk.seq) (range_row hX 20 [.int .i64 e.lnk.seq] rfl) (fun _ _ => rfl)
set_option maxRecDepth 100000 in
theorem n86_o11 (ps0 : String) (e : LE) (vv ss : Value) (X Y : Nat) (w0 : World) (hX : w0.heap[X]? = some (.cells (lecells e vv ss).toArray 111 (0, 0))) : Ob Try.prog (n86ops ps0 ++ [n86p16 ps0]).toArray (n86L e vv ss X Y) 69 w0 (n86p11 ps0) := ob_fieldAddr rfl rfl trivial ⟨by decide, fun _ _ h => h⟩ (fun w => by go_simp) (fun _ => rfl)
set_option maxRecDepth 100000 in
theorem n86_o12 (ps0 : String) (e : LE) (vv ss : Value) (X Y : Nat) (w0 : World) (hX : w0.heap[X]? = some (.cells (lecells e vv ss).toArray 111 (0, 0))) : Ob Try.prog (n86ops ps0 ++ [n86p16 ps0]).toArray (n86L e vv ss X Y) 69 w0 (n86p12 ps0) := ob_fieldAddr rfl rfl trivial ⟨by decide, fun _ _ h => h⟩ (fun w => by go_simp) (fun _ => rfl)
set_option maxRecDepth 100000 in
theorem n86_o13 (ps0 : String) (e : LE) (vv ss : Value) (X Y : Nat) (w0 : World) (hX : w0.heap[X]? = some (.cells (lecells e vv ss).toArray 111 (0, 0))) : Ob Try.prog (n86ops ps0 ++ [n86p16 ps0]).toArray (n86L e vv ss X Y) 69 w0 (n86p13 ps0) := ob_load rfl rfl trivial ⟨by decide, fun _ _ h => h⟩ (tyBool e.lnk.rev) (range_row hX 21 [.bool e.lnk.rev] rfl) (fun _ _ => rfl)
set_option maxRecDepth 100000 in
theorem n86_o14 (ps0 : String) (e : LE) (vv ss : Value) (X Y : Nat) (w0 : World) (hX : w0.heap[X]? = some (.cells (lecells e vv ss).toArray 111 (0, 0))) : Ob Try.prog (n86ops ps0 ++ [n86p16 ps0]).toArray (n86L e vv ss X Y) 69 w0 (n86p14 ps0) := ob_run trivial fun a w hw hl hsz => by
  have e44 : a.eval (.tmp 44) = .agg #[.string e.lnk.a.clean.ns, .int .i64 e.lnk.a.clean.val.kind, .int .i64 e.lnk.a.clean.val.int, .string e.lnk.a.clean.val.text] := hl 44 (by simp [Oper.looksAt, n86p14, Op.operands]) (by decide)
  have e48 : a.eval (.tmp 48) = .agg #[.string e.lnk.b.clean.ns, .int .i64 e.lnk.b.clean.val.kind, .int .i64 e.lnk.b.clean.val.int, .string e.lnk.b.clean.val.text] := hl 48 (by simp [Oper.looksAt, n86p14, Op.operands]) (by decide)
  have e51 : a.eval (.tmp 51) = .int .i64 e.lnk.seq := hl 51 (by simp [Oper.looksAt, n86p14, Op.operands]) (by decide)
  have e54 : a.eval (.tmp 54) = .bool e.lnk.rev := hl 54 (by simp [Oper.looksAt, n86p14, Op.operands]) (by decide)
  refine ⟨valLnk e.lnk.clean, ?_, fun d hd => by obtain rfl := Option.some.inj hd; rfl⟩
  simp only [execOp, n86p14, List.map_toArray, List.map_cons, List.map_nil, e44, e48, e51, e54]
  simp only [valLnk, lnkcells, idfcells, Lnk.clean, List.cons_append, List.nil_append]
  go_simp
set_option maxRecDepth 100000 in
theorem n86_o15 (ps0 : String) (e : LE) (vv ss : Value) (X Y : Nat) (w0 : World) (hX : w0.heap[X]? = some (.cells (lecells e vv ss).toArray 111 (0, 0))) : Ob Try.prog (n86ops ps0 ++ [n86p16 ps0]).toArray (n86L e vv ss X Y) 69 w0 (n86p15 ps0) := ob_fieldAddr rfl rfl trivial ⟨by decide, fun _ _ h => h⟩ (fun w => by go_simp) (fun _ => rfl)
set_option maxRecDepth 100000 in
theorem n86_ob (ps0 : String) (e : LE) (vv ss : Value) (X Y : Nat) (w0 : World) (hX : w0.heap[X]? = some (.cells (lecells e vv ss).toArray 111 (0, 0))) : ObAll Try.prog (n86ops ps0 ++ [n86p16 ps0]).toArray (n86L e vv ss X Y) 69 w0 (n86ops ps0) := ⟨n86_o0 ps0 e vv ss X Y w0 hX, n86_o1 ps0 e vv ss X Y w0 hX, n86_o2 ps0 e vv ss X Y w0 hX, n86_o3 ps0 e vv ss X Y w0 hX, n86_o4 ps0 e vv ss X Y w0 hX, n86_o5 ps0 e vv ss X Y w0 hX, n86_o6 ps0 e vv ss X Y w0 hX, n86_o7 ps0 e vv ss X Y w0 hX, n86_o8 ps0 e vv ss X Y w0 hX, n86_o9 ps0 e vv ss X Y w0 hX, n86_o10 ps0 e vv ss X Y w0 hX, n86_o11 ps0 e vv ss X Y w0 hX, n86_o12 ps0 e vv ss X Y w0 hX, n86_o13 ps0 e vv ss X Y w0 hX, n86_o14 ps0 e vv ss X Y w0 hX, n86_o15 ps0 e vv ss X Y w0 hX, trivial⟩
set_option maxRecDepth 100000 in
set_option maxHeartbeats 4000000 in
theorem normal_walk (e : LE) (v s : Value) (w : World) (hv : Sl w 3 v e.vers.length (e.vers.flatMap vercells)) (hs : Sl w 2 s e.srcs.length (e.srcs.flatMap srccells)) (hr : e.root.length = 32) :
    Calls Try.prog 86 #[leval e v s] w fun en w' => en = .returned (leval e.norm (if e.kind = 2 then v else nilS) (if e.kind = 2 then s else nilS)) ∧ w.grownBy w' none := by
  have hroot := hr
  have hone1 := slice_one hv
  have hone2 := slice_one hs
  have TV := hid (tyVersS hv)
  have TS := hid (tySrcsS hs)
  have P4 := le_req e v s
  have P5 := le_lnk e v s
  have P6 := le_hld e v s
  have P7 := le_vs e v s
  have P8 := le_ss e v s
  have P9 := le_root e v s
  have hb := heap_at (w := w) (o := .cells (lecells e v s).toArray 111) rfl
  have h0 : (lecells e v s)[0]? = some (.int .i64 e.kind) := rfl
  have h1 : (lecells e v s)[1]? = some (.int .i64 e.day) := rfl
  have h2 : (lecells e v s)[2]? = some (.int .i64 e.plan) := rfl
  have h3 : (lecells e v s)[3]? = some (.int .i64 e.step) := rfl
  obtain ⟨U, hU⟩ : ∃ U, U = leval e.norm (if e.kind = 2 then v else nilS) (if e.kind = 2 then s else nilS) := ⟨_, rfl⟩
  rw [← hU]
  have HU := hid hU
  clear hU
  unfold leval
  generalize hC : lecells e v s = C at *
  have HC := hid hC
  clear hC hv hs
  have P4 := hid P4
  have P5 := hid P5
  have P6 := hid P6
  have P7 := hid P7
  have P8 := hid P8
  have P9 := hid P9
  have W1 : ∀ j x, C[j]? = some x → ((w.alloc (.cells C.toArray 111)).alloc (.cells Try.zeroCells111 111)).cell? ⟨w.heap.size, j, none⟩ = some x := fun j x hj => by
    rw [cell_of_row _ _ j _ _ _ (row_of (World.grownBy_alloc _ _ none) hb (by simp))]
    simpa using hj
  have c0 := W1 0 _ h0
  have c1 := W1 1 _ h1
  have c2 := W1 2 _ h2
  have c3 := W1 3 _ h3
  have H0 := hid h0
  clear W1 h0 h1 h2 h3
  have ga := World.grownBy_alloc w (.cells C.toArray 111) none
  have gb := World.grownBy_alloc (w.alloc (.cells C.toArray 111)) (.cells Try.zeroCells111 111) none
  have gc := World.grownBy_alloc ((w.alloc (.cells C.toArray 111)).alloc (.cells Try.zeroCells111 111)) (.cells Try.zeroCells111 111) none
  have hz1 : (w.alloc (.cells C.toArray 111)).heap.size = w.heap.size + 1 := by simp
  have hz2 : ((w.alloc (.cells C.toArray 111)).alloc (.cells Try.zeroCells111 111)).heap.size = w.heap.size + 1 + 1 := by simp
  have NF0 := hid (show NF w (((w.alloc (.cells C.toArray 111)).alloc (.cells Try.zeroCells111 111)).alloc (.cells Try.zeroCells111 111)) C leZ from
    ⟨grown_trans (grown_trans ga gb) gc, row_of gc (row_of gb hb (by simp)) (by simp), row_of gc (heap_at (by omega)) (by simp), by rw [leZ_arr]; exact heap_at (by omega)⟩)
  have T0 := hid (show TY Try.prog 111 (lecells (LE.base e.kind e.day e.plan e.step) nilS nilS) (.agg ((((Try.zeroCells111.setIfInBounds 0 (.int .i64 e.kind)).setIfInBounds 1 (.int .i64 e.day)).setIfInBounds 2 (.int .i64 e.plan)).setIfInBounds 3 (.int .i64 e.step))) by rw [leB_arr]; exact tyLE rfl rfl z32_ok.1)
  have L0 := hid (le_len0 e.kind e.day e.plan e.step nilS nilS)
  clear ga gb gc hz1 hz2 hb
  by_cases k1 : e.kind = 1
  · have HK := hid k1
    clear k1
    have HT := hid (show TY Try.prog 111 (lecells ({ LE.base e.kind e.day e.plan e.step with req := { e.req with who := e.req.who.clean } }) nilS nilS) (leval ({ LE.base e.kind e.day e.plan e.step with req := { e.req with who := e.req.who.clean } }) nilS nilS) from tyLE rfl rfl z32_ok.1)
    have HN := hid (show leval ({ LE.base e.kind e.day e.plan e.step with req := { e.req with who := e.req.who.clean } }) nilS nilS = leval e.norm (if e.kind = 2 then v else nilS) (if e.kind = 2 then s else nilS) by rw [if_neg (show ¬ e.kind = 2 by rw [HK.out]; decide), if_neg (show ¬ e.kind = 2 by rw [HK.out]; decide)]; unfold LE.norm; rw [if_pos HK.out]; try rfl)
    have HL := hid (lecells_len ({ LE.base e.kind e.day e.plan e.step with req := { e.req with who := e.req.who.clean } }) nilS nilS z32_ok.1)
    obtain ⟨V, hV⟩ : ∃ V, V = leval ({ LE.base e.kind e.day e.plan e.step with req := { e.req with who := e.req.who.clean } }) nilS nilS := ⟨_, rfl⟩
    rw [← hV] at HT HN
    obtain ⟨E, hE⟩ : ∃ E, E = lecells ({ LE.base e.kind e.day e.plan e.step with req := { e.req with who := e.req.who.clean } }) nilS nilS := ⟨_, rfl⟩
    rw [← hE] at HT HL
    have HE := hid hE
    clear hV hE
    have b1 : (e.kind == 1) = true := by rw [HK.out]; rfl
    go_enter Try.func86, Try.ntmps86
    go_wp2_with (first | (refine wpList_storeTYg rfl 111 (.tmp 3) (.tmp 12) rfl rfl rfl T0.out NF0.out.d (by rw [L0.out]; simp) ?_; intro w1 g1 hd1; have N1 := hid (NF0.out.write g1 hd1); clear g1 hd1; have c0 : w1.cell? ⟨w.heap.size, 0, none⟩ = some (.int .i64 e.kind) := (by rw [cell_of_row _ _ 0 _ _ _ N1.out.x]; simpa using H0.out)) | (refine wpList_loadAt rfl 105 (.tmp 17) rfl rfl (tyReq e.req) (range_row N1.out.x 4 _ (by simpa using P4.out)) ?_) | (refine wpList_storeAt rfl 105 (.tmp 19) (.tmp 18) rfl rfl rfl (tyReq e.req) N1.out.d (by rw [L0.out]; exact Nat.le_of_ble_eq_true rfl) ?_; intro w2 g2 hd2; have N2 := hid (N1.out.write (D' := lecells ({ LE.base e.kind e.day e.plan e.step with req := e.req }) nilS nilS) g2 hd2); clear g2 hd2) | (refine wpList_loadAt rfl 103 (.tmp 21) rfl rfl (tyIdf e.req.who) (range_row N2.out.x 5 _ (by rw [← HC.out]; rfl)) ?_) | fail)
    refine (cleanI_walk e.req.who _).mono ?_
    rintro en w3 ⟨rfl, g3⟩
    have N3 := hid (N2.out.call g3)
    clear g3 c0
    have LA := hid (lecells_len ({ LE.base e.kind e.day e.plan e.step with req := e.req }) nilS nilS z32_ok.1)
    go_wp2_with (first | (refine wpList_storeAt rfl 103 (.tmp 25) (.tmp 23) rfl rfl rfl (tyIdf _) N3.out.d (by rw [LA.out]; exact Nat.le_of_ble_eq_true rfl) ?_; intro w4 g4 hd4; have ND := hid (N3.out.write (D' := E) g4 (by rw [HE.out]; exact hd4)); clear g4 hd4) | (refine wpList_loadTY rfl 111 (.tmp 3) rfl rfl HT.out ND.out.d ?_) | (refine wpList_storeTYg rfl 111 (.tmp 2) (.tmp 68) rfl rfl rfl HT.out ND.out.o (by rw [leZ_size, HL.out]) ?_; intro w9 g9 hb9) | fail)
    exact ret_cell rfl rfl HT.out hb9 rfl ⟨congrArg _ (HN.out.trans HU.out.symm), grown_newR ND.out.g g9 (by omega)⟩
  by_cases k2 : e.kind = 2
  · have HK := hid k2
    clear k2
    have HT := hid (show TY Try.prog 111 (lecells ({ LE.base e.kind e.day e.plan e.step with vers := e.vers, srcs := e.srcs }) v s) (leval ({ LE.base e.kind e.day e.plan e.step with vers := e.vers, srcs := e.srcs }) v s) from tyLE hone1 hone2 z32_ok.1)
    have HN := hid (show leval ({ LE.base e.kind e.day e.plan e.step with vers := e.vers, srcs := e.srcs }) v s = leval e.norm (if e.kind = 2 then v else nilS) (if e.kind = 2 then s else nilS) by rw [if_pos HK.out, if_pos HK.out]; unfold LE.norm; rw [if_neg (show ¬ e.kind = 1 by rw [HK.out]; decide), if_pos HK.out]; try rfl)
    have HL := hid (lecells_len ({ LE.base e.kind e.day e.plan e.step with vers := e.vers, srcs := e.srcs }) v s z32_ok.1)
    obtain ⟨V, hV⟩ : ∃ V, V = leval ({ LE.base e.kind e.day e.plan e.step with vers := e.vers, srcs := e.srcs }) v s := ⟨_, rfl⟩
    rw [← hV] at HT HN
    obtain ⟨E, hE⟩ : ∃ E, E = lecells ({ LE.base e.kind e.day e.plan e.step with vers := e.vers, srcs := e.srcs }) v s := ⟨_, rfl⟩
    rw [← hE] at HT HL
    have HE := hid hE
    clear hV hE
    have b1 : (e.kind == 1) = false := by rw [HK.out]; rfl
    have b2 : (e.kind == 2) = true := by rw [HK.out]; rfl
    go_enter Try.func86, Try.ntmps86
    go_wp2_with (first | (refine wpList_storeTYg rfl 111 (.tmp 3) (.tmp 12) rfl rfl rfl T0.out NF0.out.d (by rw [L0.out]; simp) ?_; intro w1 g1 hd1; have N1 := hid (NF0.out.write g1 hd1); clear g1 hd1; have c0 : w1.cell? ⟨w.heap.size, 0, none⟩ = some (.int .i64 e.kind) := (by rw [cell_of_row _ _ 0 _ _ _ N1.out.x]; simpa using H0.out)) | (refine wpList_loadAt rfl 42 (.tmp 28) rfl rfl (TV.out) (range_row N1.out.x 31 _ (by simpa using P7.out)) ?_) | (refine wpList_storeAt rfl 42 (.tmp 30) (.tmp 29) rfl rfl rfl TV.out N1.out.d (by rw [L0.out]; exact Nat.le_of_ble_eq_true rfl) ?_; intro w2 g2 hd2; have N2 := hid (N1.out.write (D' := lecells ({ LE.base e.kind e.day e.plan e.step with vers := e.vers }) v nilS) g2 hd2); have LA := hid (lecells_len ({ LE.base e.kind e.day e.plan e.step with vers := e.vers }) v nilS z32_ok.1); clear g2 hd2) | (refine wpList_loadAt rfl 43 (.tmp 31) rfl rfl TS.out (range_row N2.out.x 32 _ (by simpa using P8.out)) ?_) | (refine wpList_storeAt rfl 43 (.tmp 33) (.tmp 32) rfl rfl rfl TS.out N2.out.d (by rw [LA.out]; exact Nat.le_of_ble_eq_true rfl) ?_; intro w4 g4 hd4; have ND := hid (N2.out.write (D' := E) g4 (by rw [HE.out]; exact hd4)); clear g4 hd4) | (refine wpList_loadTY rfl 111 (.tmp 3) rfl rfl HT.out ND.out.d ?_) | (refine wpList_storeTYg rfl 111 (.tmp 2) (.tmp 68) rfl rfl rfl HT.out ND.out.o (by rw [leZ_size, HL.out]) ?_; intro w9 g9 hb9) | fail)
    exact ret_cell rfl rfl HT.out hb9 rfl ⟨congrArg _ (HN.out.trans HU.out.symm), grown_newR ND.out.g g9 (by omega)⟩
  by_cases k4 : e.kind = 4
  · have HK := hid k4
    clear k4
    have HT := hid (show TY Try.prog 111 (lecells ({ LE.base e.kind e.day e.plan e.step with root := e.root }) nilS nilS) (leval ({ LE.base e.kind e.day e.plan e.step with root := e.root }) nilS nilS) from tyLE rfl rfl hroot)
    have HN := hid (show leval ({ LE.base e.kind e.day e.plan e.step with root := e.root }) nilS nilS = leval e.norm (if e.kind = 2 then v else nilS) (if e.kind = 2 then s else nilS) by rw [if_neg (show ¬ e.kind = 2 by rw [HK.out]; decide), if_neg (show ¬ e.kind = 2 by rw [HK.out]; decide)]; unfold LE.norm; rw [if_neg (show ¬ e.kind = 1 by rw [HK.out]; decide), if_neg (show ¬ e.kind = 2 by rw [HK.out]; decide), if_pos HK.out]; try rfl)
    have HL := hid (lecells_len ({ LE.base e.kind e.day e.plan e.step with root := e.root }) nilS nilS hroot)
    obtain ⟨V, hV⟩ : ∃ V, V = leval ({ LE.base e.kind e.day e.plan e.step with root := e.root }) nilS nilS := ⟨_, rfl⟩
    rw [← hV] at HT HN
    obtain ⟨E, hE⟩ : ∃ E, E = lecells ({ LE.base e.kind e.day e.plan e.step with root := e.root }) nilS nilS := ⟨_, rfl⟩
    rw [← hE] at HT HL
    have HE := hid hE
    clear hV hE
    have b1 : (e.kind == 1) = false := by rw [HK.out]; rfl
    have b2 : (e.kind == 2) = false := by rw [HK.out]; rfl
    have b4 : (e.kind == 4) = true := by rw [HK.out]; rfl
    go_enter Try.func86, Try.ntmps86
    go_wp2_with (first | (refine wpList_storeTYg rfl 111 (.tmp 3) (.tmp 12) rfl rfl rfl T0.out NF0.out.d (by rw [L0.out]; simp) ?_; intro w1 g1 hd1; have N1 := hid (NF0.out.write g1 hd1); clear g1 hd1; have c0 : w1.cell? ⟨w.heap.size, 0, none⟩ = some (.int .i64 e.kind) := (by rw [cell_of_row _ _ 0 _ _ _ N1.out.x]; simpa using H0.out)) | (refine wpList_loadAt rfl 45 (.tmp 36) rfl rfl (tyDig e.root hroot) (range_row N1.out.x 33 _ (by simpa using P9.out)) ?_) | (refine wpList_storeAt rfl 45 (.tmp 38) (.tmp 37) rfl rfl rfl (tyDig e.root hroot) N1.out.d (by rw [L0.out, bv_length, hroot]; exact Nat.le_of_ble_eq_true rfl) ?_; intro w4 g4 hd4; have ND := hid (N1.out.write (D' := E) g4 (by rw [HE.out, ← le_setroot e nilS nilS e.root hroot]; exact hd4)); clear g4 hd4) | (refine wpList_loadTY rfl 111 (.tmp 3) rfl rfl HT.out ND.out.d ?_) | (refine wpList_storeTYg rfl 111 (.tmp 2) (.tmp 68) rfl rfl rfl HT.out ND.out.o (by rw [leZ_size, HL.out]) ?_; intro w9 g9 hb9) | fail)
    exact ret_cell rfl rfl HT.out hb9 rfl ⟨congrArg _ (HN.out.trans HU.out.symm), grown_newR ND.out.g g9 (by omega)⟩
  by_cases k6 : e.kind = 6
  · have HK := hid k6
    clear k6
    have HT := hid (show TY Try.prog 111 (lecells ({ LE.base e.kind e.day e.plan e.step with lnk := e.lnk.clean }) nilS nilS) (leval ({ LE.base e.kind e.day e.plan e.step with lnk := e.lnk.clean }) nilS nilS) from tyLE rfl rfl z32_ok.1)
    have HN := hid (show leval ({ LE.base e.kind e.day e.plan e.step with lnk := e.lnk.clean }) nilS nilS = leval e.norm (if e.kind = 2 then v else nilS) (if e.kind = 2 then s else nilS) by rw [if_neg (show ¬ e.kind = 2 by rw [HK.out]; decide), if_neg (show ¬ e.kind = 2 by rw [HK.out]; decide)]; unfold LE.norm; rw [if_neg (show ¬ e.kind = 1 by rw [HK.out]; decide), if_neg (show ¬ e.kind = 2 by rw [HK.out]; decide), if_neg (show ¬ e.kind = 4 by rw [HK.out]; decide), if_pos HK.out]; try rfl)
    have HL := hid (lecells_len ({ LE.base e.kind e.day e.plan e.step with lnk := e.lnk.clean }) nilS nilS z32_ok.1)
    obtain ⟨V, hV⟩ : ∃ V, V = leval ({ LE.base e.kind e.day e.plan e.step with lnk := e.lnk.clean }) nilS nilS := ⟨_, rfl⟩
    rw [← hV] at HT HN
    obtain ⟨E, hE⟩ : ∃ E, E = lecells ({ LE.base e.kind e.day e.plan e.step with lnk := e.lnk.clean }) nilS nilS := ⟨_, rfl⟩
    rw [← hE] at HT HL
    have HE := hid hE
    clear hV hE
    have b1 : (e.kind == 1) = false := by rw [HK.out]; rfl
    have b2 : (e.kind == 2) = false := by rw [HK.out]; rfl
    have b4 : (e.kind == 4) = false := by rw [HK.out]; rfl
    have b6 : (e.kind == 6) = true := by rw [HK.out]; rfl
    go_enter Try.func86, Try.ntmps86
    go_wp2_with (first | (refine wpList_storeTYg rfl 111 (.tmp 3) (.tmp 12) rfl rfl rfl T0.out NF0.out.d (by rw [L0.out]; simp) ?_; intro w1 g1 hd1; have N1 := hid (NF0.out.write g1 hd1); clear g1 hd1; have c0 : w1.cell? ⟨w.heap.size, 0, none⟩ = some (.int .i64 e.kind) := (by rw [cell_of_row _ _ 0 _ _ _ N1.out.x]; simpa using H0.out)) | fail)
    refine region_last mixed (n86L e v s w.heap.size (w.heap.size + 1 + 1)) _ (n86_reg _) (n86_lb _) (n86_m _) ?_ ?_ (n86_ob _ e v s w.heap.size (w.heap.size + 1 + 1) _ (by rw [HC.out]; exact N1.out.x)) ?_
    · rfl
    · exact ⟨.inr trivial, .inr rfl, .inr trivial, .inr rfl, .inr trivial, .inr trivial, .inr trivial, .inr trivial, .inr trivial, .inr trivial, .inr trivial, .inr trivial, .inr trivial, .inr trivial, .inr trivial, .inr trivial, .inr trivial, .inr trivial, .inr trivial, .inr trivial, .inr trivial, .inr trivial, .inr trivial, .inr trivial, .inr trivial, .inr trivial, .inr trivial, .inr trivial, .inr trivial, .inr trivial, .inr trivial, .inr trivial, .inr trivial, .inr trivial, .inr trivial, .inr trivial, .inr trivial, .inr trivial, .inr trivial, .inr trivial, .inr trivial, .inl rfl, .inl rfl, .inl rfl, .inl rfl, .inl rfl, .inl rfl, .inl rfl, .inl rfl, .inl rfl, .inl rfl, .inl rfl, .inl rfl, .inl rfl, .inl rfl, .inl rfl, .inl rfl, .inr trivial, .inr trivial, .inr trivial, .inr trivial, .inr trivial, .inr trivial, .inr trivial, .inr trivial, .inr trivial, .inr trivial, .inr trivial, .inr trivial, trivial⟩
    intro y w3 hg3 hk3
    have y55 : y 55 = valLnk e.lnk.clean := hk3 55 (by show 55 < 69; decide)
    have y56 : y 56 = .pointer (some ⟨w.heap.size + 1 + 1, 12, none⟩) := hk3 56 (by show 56 < 69; decide)
    have N3 := hid (N1.out.call hg3)
    simp only [frameOf, Bool.false_eq_true, if_false, if_true]
    rw [y55, y56]
    clear hk3 hg3 y55 y56 c0
    refine wpList_storeAt rfl 107 (.tmp 56) (.tmp 55) rfl rfl rfl (tyLnk _) N3.out.d (by rw [L0.out]; exact Nat.le_of_ble_eq_true rfl) ?_
    intro w4 g4 hd4
    have ND := hid (N3.out.write (D' := E) g4 (by rw [HE.out]; exact hd4))
    clear g4 hd4
    show wpList _ _ _ [] _ _
    go_wp2_with (first  | (refine wpList_loadTY rfl 111 (.tmp 3) rfl rfl HT.out ND.out.d ?_) | (refine wpList_storeTYg rfl 111 (.tmp 2) (.tmp 68) rfl rfl rfl HT.out ND.out.o (by rw [leZ_size, HL.out]) ?_; intro w9 g9 hb9) | fail)
    exact ret_cell rfl rfl HT.out hb9 rfl ⟨congrArg _ (HN.out.trans HU.out.symm), grown_newR ND.out.g g9 (by omega)⟩
  by_cases k7 : e.kind = 7
  · have HK := hid k7
    clear k7
    have HT := hid (show TY Try.prog 111 (lecells ({ LE.base e.kind e.day e.plan e.step with hld := { e.hld with who := e.hld.who.clean } }) nilS nilS) (leval ({ LE.base e.kind e.day e.plan e.step with hld := { e.hld with who := e.hld.who.clean } }) nilS nilS) from tyLE rfl rfl z32_ok.1)
    have HN := hid (show leval ({ LE.base e.kind e.day e.plan e.step with hld := { e.hld with who := e.hld.who.clean } }) nilS nilS = leval e.norm (if e.kind = 2 then v else nilS) (if e.kind = 2 then s else nilS) by rw [if_neg (show ¬ e.kind = 2 by rw [HK.out]; decide), if_neg (show ¬ e.kind = 2 by rw [HK.out]; decide)]; unfold LE.norm; rw [if_neg (show ¬ e.kind = 1 by rw [HK.out]; decide), if_neg (show ¬ e.kind = 2 by rw [HK.out]; decide), if_neg (show ¬ e.kind = 4 by rw [HK.out]; decide), if_neg (show ¬ e.kind = 6 by rw [HK.out]; decide), if_pos HK.out]; try rfl)
    have HL := hid (lecells_len ({ LE.base e.kind e.day e.plan e.step with hld := { e.hld with who := e.hld.who.clean } }) nilS nilS z32_ok.1)
    obtain ⟨V, hV⟩ : ∃ V, V = leval ({ LE.base e.kind e.day e.plan e.step with hld := { e.hld with who := e.hld.who.clean } }) nilS nilS := ⟨_, rfl⟩
    rw [← hV] at HT HN
    obtain ⟨E, hE⟩ : ∃ E, E = lecells ({ LE.base e.kind e.day e.plan e.step with hld := { e.hld with who := e.hld.who.clean } }) nilS nilS := ⟨_, rfl⟩
    rw [← hE] at HT HL
    have HE := hid hE
    clear hV hE
    have b1 : (e.kind == 1) = false := by rw [HK.out]; rfl
    have b2 : (e.kind == 2) = false := by rw [HK.out]; rfl
    have b4 : (e.kind == 4) = false := by rw [HK.out]; rfl
    have b6 : (e.kind == 6) = false := by rw [HK.out]; rfl
    have b7 : (e.kind == 7) = true := by rw [HK.out]; rfl
    go_enter Try.func86, Try.ntmps86
    go_wp2_with (first | (refine wpList_storeTYg rfl 111 (.tmp 3) (.tmp 12) rfl rfl rfl T0.out NF0.out.d (by rw [L0.out]; simp) ?_; intro w1 g1 hd1; have N1 := hid (NF0.out.write g1 hd1); clear g1 hd1; have c0 : w1.cell? ⟨w.heap.size, 0, none⟩ = some (.int .i64 e.kind) := (by rw [cell_of_row _ _ 0 _ _ _ N1.out.x]; simpa using H0.out)) | (refine wpList_loadAt rfl 109 (.tmp 59) rfl rfl (tyHld e.hld) (range_row N1.out.x 22 _ (by simpa using P6.out)) ?_) | (refine wpList_storeAt rfl 109 (.tmp 61) (.tmp 60) rfl rfl rfl (tyHld e.hld) N1.out.d (by rw [L0.out]; exact Nat.le_of_ble_eq_true rfl) ?_; intro w2 g2 hd2; have N2 := hid (N1.out.write (D' := lecells ({ LE.base e.kind e.day e.plan e.step with hld := e.hld }) nilS nilS) g2 hd2); clear g2 hd2) | (refine wpList_loadAt rfl 103 (.tmp 63) rfl rfl (tyIdf e.hld.who) (range_row N2.out.x 24 _ (by rw [← HC.out]; rfl)) ?_) | fail)
    refine (cleanI_walk e.hld.who _).mono ?_
    rintro en w3 ⟨rfl, g3⟩
    have N3 := hid (N2.out.call g3)
    clear g3 c0
    have LA := hid (lecells_len ({ LE.base e.kind e.day e.plan e.step with hld := e.hld }) nilS nilS z32_ok.1)
    go_wp2_with (first | (refine wpList_storeAt rfl 103 (.tmp 67) (.tmp 65) rfl rfl rfl (tyIdf _) N3.out.d (by rw [LA.out]; exact Nat.le_of_ble_eq_true rfl) ?_; intro w4 g4 hd4; have ND := hid (N3.out.write (D' := E) g4 (by rw [HE.out]; exact hd4)); clear g4 hd4) | (refine wpList_loadTY rfl 111 (.tmp 3) rfl rfl HT.out ND.out.d ?_) | (refine wpList_storeTYg rfl 111 (.tmp 2) (.tmp 68) rfl rfl rfl HT.out ND.out.o (by rw [leZ_size, HL.out]) ?_; intro w9 g9 hb9) | fail)
    exact ret_cell rfl rfl HT.out hb9 rfl ⟨congrArg _ (HN.out.trans HU.out.symm), grown_newR ND.out.g g9 (by omega)⟩
  have n1 := k1
  have n2 := k2
  have n4 := k4
  have n6 := k6
  have n7 := k7
  have HT := hid (show TY Try.prog 111 (lecells (LE.base e.kind e.day e.plan e.step) nilS nilS) (leval (LE.base e.kind e.day e.plan e.step) nilS nilS) from tyLE rfl rfl z32_ok.1)
  have HN := hid (show leval (LE.base e.kind e.day e.plan e.step) nilS nilS = leval e.norm (if e.kind = 2 then v else nilS) (if e.kind = 2 then s else nilS) by rw [if_neg k2, if_neg k2]; unfold LE.norm; rw [if_neg k1, if_neg k2, if_neg k4, if_neg k6, if_neg k7])
  have HL := hid (lecells_len (LE.base e.kind e.day e.plan e.step) nilS nilS z32_ok.1)
  obtain ⟨V, hV⟩ : ∃ V, V = leval (LE.base e.kind e.day e.plan e.step) nilS nilS := ⟨_, rfl⟩
  rw [← hV] at HT HN
  obtain ⟨E, hE⟩ : ∃ E, E = lecells (LE.base e.kind e.day e.plan e.step) nilS nilS := ⟨_, rfl⟩
  rw [← hE] at HT HL
  have HE := hid hE
  clear hV hE
  have b1 : (e.kind == 1) = false := by simpa using n1
  have b2 : (e.kind == 2) = false := by simpa using n2
  have b4 : (e.kind == 4) = false := by simpa using n4
  have b6 : (e.kind == 6) = false := by simpa using n6
  have b7 : (e.kind == 7) = false := by simpa using n7
  clear k1 k2 k4 k6 k7 n1 n2 n4 n6 n7
  go_enter Try.func86, Try.ntmps86
  go_wp2_with (first | (refine wpList_storeTYg rfl 111 (.tmp 3) (.tmp 12) rfl rfl rfl T0.out NF0.out.d (by rw [L0.out]; simp) ?_; intro w1 g1 hd1; have N1 := hid (NF0.out.write g1 hd1); clear g1 hd1; have c0 : w1.cell? ⟨w.heap.size, 0, none⟩ = some (.int .i64 e.kind) := (by rw [cell_of_row _ _ 0 _ _ _ N1.out.x]; simpa using H0.out)) ; have ND := hid (show NF w w1 C E from HE.out ▸ N1.out) | (refine wpList_loadTY rfl 111 (.tmp 3) rfl rfl HT.out ND.out.d ?_) | (refine wpList_storeTYg rfl 111 (.tmp 2) (.tmp 68) rfl rfl rfl HT.out ND.out.o (by rw [leZ_size, HL.out]) ?_; intro w9 g9 hb9) | fail)
  exact ret_cell rfl rfl HT.out hb9 rfl ⟨congrArg _ (HN.out.trans HU.out.symm), grown_newR ND.out.g g9 (by omega)⟩

end Go.Proofs.Ytkeiffccllfkpaa
