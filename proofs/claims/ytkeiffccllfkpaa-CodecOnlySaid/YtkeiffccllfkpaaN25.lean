/- The appender of a ledger entry. -/
import Derived.Test.YtkeiffccllfkpaaN17
namespace Go.Proofs.Ytkeiffccllfkpaa
open Go.RowKit
set_option linter.unusedSimpArgs false

set_option linter.unusedVariables false
def r163p0 (ps0 : String) : Oper := { dst := some 26, op := Go.Op.move (Go.Operand.tmp 0), type := 22, pos := ps0, after := #[], guard := none }
def r163p1 (ps0 : String) : Oper := { dst := some 27, op := Go.Op.fieldAddr 111 (Go.Operand.tmp 3) 7, type := 0, pos := ps0, after := #[], guard := none }
def r163p2 (ps0 : String) : Oper := { dst := some 28, op := Go.Op.load 42 (Go.Operand.tmp 27), type := 42, pos := ps0, after := #[{ on := 1, ground := Go.Ground.data }], guard := none }
def r163p3 (ps0 : String) : Oper := { dst := some 29, op := Go.Op.call { callee := Go.Callee.value (Go.Operand.func 102), args := #[Go.Operand.tmp 26, Go.Operand.tmp 28], argTypes := #[22, 42] }, type := 22, pos := ps0, after := #[{ on := 0, ground := Go.Ground.data }, { on := 2, ground := Go.Ground.data }], guard := none }
def r163p4 (ps0 : String) : Oper := { dst := some 30, op := Go.Op.fieldAddr 111 (Go.Operand.tmp 3) 8, type := 0, pos := ps0, after := #[], guard := none }
def r163p5 (ps0 : String) : Oper := { dst := some 31, op := Go.Op.load 43 (Go.Operand.tmp 30), type := 43, pos := ps0, after := #[{ on := 4, ground := Go.Ground.data }], guard := none }
def r163p6 (ps0 : String) : Oper := { dst := some 32, op := Go.Op.call { callee := Go.Callee.value (Go.Operand.func 99), args := #[Go.Operand.tmp 29, Go.Operand.tmp 31], argTypes := #[22, 43] }, type := 22, pos := ps0, after := #[{ on := 3, ground := Go.Ground.data }, { on := 5, ground := Go.Ground.data }, { on := 3, ground := Go.Ground.chain }], guard := none }
def r163p7 (ps0 : String) : Oper := { dst := some 0, op := Go.Op.assign (Go.Operand.tmp 32), type := 22, pos := ps0, after := #[{ on := 6, ground := Go.Ground.data }, { on := 6, ground := Go.Ground.chain }, { on := 0, ground := Go.Ground.phase }, { on := 1, ground := Go.Ground.phase }, { on := 2, ground := Go.Ground.phase }, { on := 3, ground := Go.Ground.phase }, { on := 4, ground := Go.Ground.phase }, { on := 5, ground := Go.Ground.phase }, { on := 6, ground := Go.Ground.phase }], guard := none }
def r163ops (ps0 : String) : List Oper := [r163p0 ps0, r163p1 ps0, r163p2 ps0, r163p3 ps0, r163p4 ps0, r163p5 ps0, r163p6 ps0, r163p7 ps0]
def r163A (B : Nat) (W0 wd : World) (v0 : Value) (pre : List Nat) (X : Nat) (e : LE) (vv ss : Value) : List (Fk 5 B) := [Fk.own W0 v0 pre, Fk.any, Fk.any, Fk.is (.pointer (some ⟨X, 0, none⟩)), Fk.any, Fk.any, Fk.any, Fk.any, Fk.any, Fk.any, Fk.any, Fk.any, Fk.any, Fk.any, Fk.any, Fk.any, Fk.any, Fk.any, Fk.any, Fk.any, Fk.any, Fk.any, Fk.any, Fk.any, Fk.any, Fk.any, Fk.any, Fk.any, Fk.any, Fk.any, Fk.any, Fk.any, Fk.any, Fk.any, Fk.any, Fk.any, Fk.any, Fk.any, Fk.any, Fk.any, Fk.any, Fk.any, Fk.any, Fk.any, Fk.any, Fk.any, Fk.any, Fk.any, Fk.any, Fk.any, Fk.any, Fk.any]
def r163Z (B : Nat) (W0 wd : World) (v0 : Value) (pre : List Nat) (X : Nat) (e : LE) (vv ss : Value) : List (Fk 5 B) := [Fk.own W0 v0 (pre ++ (encVers e.vers) ++ (encSrcs e.srcs)), Fk.any, Fk.any, Fk.any, Fk.any, Fk.any, Fk.any, Fk.any, Fk.any, Fk.any, Fk.any, Fk.any, Fk.any, Fk.any, Fk.any, Fk.any, Fk.any, Fk.any, Fk.any, Fk.any, Fk.any, Fk.any, Fk.any, Fk.any, Fk.any, Fk.any, Fk.own W0 v0 pre, Fk.is (.pointer (some ⟨X, 31, none⟩)), Fk.is vv, Fk.own W0 v0 (pre ++ (encVers e.vers)), Fk.is (.pointer (some ⟨X, 32, none⟩)), Fk.is ss, Fk.own W0 v0 (pre ++ (encVers e.vers) ++ (encSrcs e.srcs)), Fk.any, Fk.any, Fk.any, Fk.any, Fk.any, Fk.any, Fk.any, Fk.any, Fk.any, Fk.any, Fk.any, Fk.any, Fk.any, Fk.any, Fk.any, Fk.any, Fk.any, Fk.any, Fk.any]
def r163J (B : Nat) (W0 wd : World) (v0 : Value) (pre : List Nat) (X : Nat) (e : LE) (vv ss : Value) (w : World) : Prop := (B ≤ w.heap.size ∧ Below B wd w) ∧ w.heap[X]? = some (.cells (lecells e vv ss).toArray 111 (0, 0))
theorem r163_reg (ps0 : String) : linB (r163ops ps0).toArray 52 [true, true, true, false, true, true, false, true] [true, false, false, false, false, false, false, false, false, false, false, false, false, false, false, false, false, false, false, false, false, false, false, false, false, false, false, false, false, false, false, false, false, false, false, false, false, false, false, false, false, false, false, false, false, false, false, false, false, false, false, false] [true, false, false, false, false, false, false, false, false, false, false, false, false, false, false, false, false, false, false, false, false, false, false, false, false, false, true, false, false, true, false, false, true, false, false, false, false, false, false, false, false, false, false, false, false, false, false, false, false, false, false, false] [0] = true := by kernel_rfl
theorem r163_m (ps0 : String) : dstsB (r163ops ps0) 52 = [true, false, false, false, false, false, false, false, false, false, false, false, false, false, false, false, false, false, false, false, false, false, false, false, false, false, true, true, true, true, true, true, true, false, false, false, false, false, false, false, false, false, false, false, false, false, false, false, false, false, false, false] := by kernel_rfl
set_option maxRecDepth 100000 in
theorem r163_o0 (ps0 : String) (B : Nat) (W0 wd : World) (v0 : Value) (pre : List Nat) (X : Nat) (e : LE) (vv ss : Value) (hv : Sl wd 3 vv e.vers.length (e.vers.flatMap vercells) ∧ Lo vv B) (hs : Sl wd 2 ss e.srcs.length (e.srcs.flatMap srccells) ∧ Lo ss B) (hvw : ∀ x ∈ e.vers, x.wf) (hsw : ∀ x ∈ e.srcs, x.wf) (hl0 : (pre).length + 20 + 30 * e.vers.length ≤ 1099511627776) (hl1 : (pre ++ (encVers e.vers)).length + 20 + 20 * e.srcs.length ≤ 1099511627776) : ObL Try.prog (r163ops ps0).toArray 52 (fun t => (r163A B W0 wd v0 pre X e vv ss).getD t Fk.any) (fun t => (r163Z B W0 wd v0 pre X e vv ss).getD t Fk.any) (r163J B W0 wd v0 pre X e vv ss) true 0 (r163p0 ps0) := lo_move 0 26 false (.inl rfl) rfl rfl (by decide) (by kernel_rfl) (fun _ _ h => h)
set_option maxRecDepth 100000 in
theorem r163_o1 (ps0 : String) (B : Nat) (W0 wd : World) (v0 : Value) (pre : List Nat) (X : Nat) (e : LE) (vv ss : Value) (hv : Sl wd 3 vv e.vers.length (e.vers.flatMap vercells) ∧ Lo vv B) (hs : Sl wd 2 ss e.srcs.length (e.srcs.flatMap srccells) ∧ Lo ss B) (hvw : ∀ x ∈ e.vers, x.wf) (hsw : ∀ x ∈ e.srcs, x.wf) (hl0 : (pre).length + 20 + 30 * e.vers.length ≤ 1099511627776) (hl1 : (pre ++ (encVers e.vers)).length + 20 + 20 * e.srcs.length ≤ 1099511627776) : ObL Try.prog (r163ops ps0).toArray 52 (fun t => (r163A B W0 wd v0 pre X e vv ss).getD t Fk.any) (fun t => (r163Z B W0 wd v0 pre X e vv ss).getD t Fk.any) (r163J B W0 wd v0 pre X e vv ss) true 1 (r163p1 ps0) := lo_field rfl rfl rfl ⟨by decide, false, by kernel_rfl, fun _ _ h => h⟩ (fun w => by go_simp) (fun _ => rfl)
set_option maxRecDepth 100000 in
theorem r163_o2 (ps0 : String) (B : Nat) (W0 wd : World) (v0 : Value) (pre : List Nat) (X : Nat) (e : LE) (vv ss : Value) (hv : Sl wd 3 vv e.vers.length (e.vers.flatMap vercells) ∧ Lo vv B) (hs : Sl wd 2 ss e.srcs.length (e.srcs.flatMap srccells) ∧ Lo ss B) (hvw : ∀ x ∈ e.vers, x.wf) (hsw : ∀ x ∈ e.srcs, x.wf) (hl0 : (pre).length + 20 + 30 * e.vers.length ≤ 1099511627776) (hl1 : (pre ++ (encVers e.vers)).length + 20 + 20 * e.srcs.length ≤ 1099511627776) : ObL Try.prog (r163ops ps0).toArray 52 (fun t => (r163A B W0 wd v0 pre X e vv ss).getD t Fk.any) (fun t => (r163Z B W0 wd v0 pre X e vv ss).getD t Fk.any) (r163J B W0 wd v0 pre X e vv ss) true 2 (r163p2 ps0) := lo_load rfl rfl rfl ⟨by decide, true, by kernel_rfl, fun _ _ h => h⟩ (tyVersS hv.1) (fun w hJ => range_row hJ.2 31 [vv] rfl) (fun _ _ => rfl)
set_option maxRecDepth 100000 in
theorem r163_o3 (ps0 : String) (B : Nat) (W0 wd : World) (v0 : Value) (pre : List Nat) (X : Nat) (e : LE) (vv ss : Value) (hv : Sl wd 3 vv e.vers.length (e.vers.flatMap vercells) ∧ Lo vv B) (hs : Sl wd 2 ss e.srcs.length (e.srcs.flatMap srccells) ∧ Lo ss B) (hvw : ∀ x ∈ e.vers, x.wf) (hsw : ∀ x ∈ e.srcs, x.wf) (hl0 : (pre).length + 20 + 30 * e.vers.length ≤ 1099511627776) (hl1 : (pre ++ (encVers e.vers)).length + 20 + 20 * e.srcs.length ≤ 1099511627776) : ObL Try.prog (r163ops ps0).toArray 52 (fun t => (r163A B W0 wd v0 pre X e vv ss).getD t Fk.any) (fun t => (r163Z B W0 wd v0 pre X e vv ss).getD t Fk.any) (r163J B W0 wd v0 pre X e vv ss) false 3 (r163p3 ps0) := lo_app1 (b := true) (w0 := W0) (v0 := v0) (xs := pre) (ys := encVers e.vers) (xv := vv) rfl rfl rfl (by decide) (by kernel_rfl) (enter_of Try.func102 (by kernel_rfl) rfl) (fun _ _ h => h) ⟨by decide, true, by kernel_rfl, fun _ _ h => h⟩ rfl (fun w v hJ ho hi => versions_app v vv e.vers (pre) w B ho hi ⟨hv.1.below hJ.1.2 hv.2, hv.2⟩ hJ.1.1 hvw hl0) (fun w hJ => hJ.1.1) (fun _ _ h => h)
set_option maxRecDepth 100000 in
theorem r163_o4 (ps0 : String) (B : Nat) (W0 wd : World) (v0 : Value) (pre : List Nat) (X : Nat) (e : LE) (vv ss : Value) (hv : Sl wd 3 vv e.vers.length (e.vers.flatMap vercells) ∧ Lo vv B) (hs : Sl wd 2 ss e.srcs.length (e.srcs.flatMap srccells) ∧ Lo ss B) (hvw : ∀ x ∈ e.vers, x.wf) (hsw : ∀ x ∈ e.srcs, x.wf) (hl0 : (pre).length + 20 + 30 * e.vers.length ≤ 1099511627776) (hl1 : (pre ++ (encVers e.vers)).length + 20 + 20 * e.srcs.length ≤ 1099511627776) : ObL Try.prog (r163ops ps0).toArray 52 (fun t => (r163A B W0 wd v0 pre X e vv ss).getD t Fk.any) (fun t => (r163Z B W0 wd v0 pre X e vv ss).getD t Fk.any) (r163J B W0 wd v0 pre X e vv ss) true 4 (r163p4 ps0) := lo_field rfl rfl rfl ⟨by decide, false, by kernel_rfl, fun _ _ h => h⟩ (fun w => by go_simp) (fun _ => rfl)
set_option maxRecDepth 100000 in
theorem r163_o5 (ps0 : String) (B : Nat) (W0 wd : World) (v0 : Value) (pre : List Nat) (X : Nat) (e : LE) (vv ss : Value) (hv : Sl wd 3 vv e.vers.length (e.vers.flatMap vercells) ∧ Lo vv B) (hs : Sl wd 2 ss e.srcs.length (e.srcs.flatMap srccells) ∧ Lo ss B) (hvw : ∀ x ∈ e.vers, x.wf) (hsw : ∀ x ∈ e.srcs, x.wf) (hl0 : (pre).length + 20 + 30 * e.vers.length ≤ 1099511627776) (hl1 : (pre ++ (encVers e.vers)).length + 20 + 20 * e.srcs.length ≤ 1099511627776) : ObL Try.prog (r163ops ps0).toArray 52 (fun t => (r163A B W0 wd v0 pre X e vv ss).getD t Fk.any) (fun t => (r163Z B W0 wd v0 pre X e vv ss).getD t Fk.any) (r163J B W0 wd v0 pre X e vv ss) true 5 (r163p5 ps0) := lo_load rfl rfl rfl ⟨by decide, true, by kernel_rfl, fun _ _ h => h⟩ (tySrcsS hs.1) (fun w hJ => range_row hJ.2 32 [ss] rfl) (fun _ _ => rfl)
set_option maxRecDepth 100000 in
theorem r163_o6 (ps0 : String) (B : Nat) (W0 wd : World) (v0 : Value) (pre : List Nat) (X : Nat) (e : LE) (vv ss : Value) (hv : Sl wd 3 vv e.vers.length (e.vers.flatMap vercells) ∧ Lo vv B) (hs : Sl wd 2 ss e.srcs.length (e.srcs.flatMap srccells) ∧ Lo ss B) (hvw : ∀ x ∈ e.vers, x.wf) (hsw : ∀ x ∈ e.srcs, x.wf) (hl0 : (pre).length + 20 + 30 * e.vers.length ≤ 1099511627776) (hl1 : (pre ++ (encVers e.vers)).length + 20 + 20 * e.srcs.length ≤ 1099511627776) : ObL Try.prog (r163ops ps0).toArray 52 (fun t => (r163A B W0 wd v0 pre X e vv ss).getD t Fk.any) (fun t => (r163Z B W0 wd v0 pre X e vv ss).getD t Fk.any) (r163J B W0 wd v0 pre X e vv ss) false 6 (r163p6 ps0) := lo_app1 (b := true) (w0 := W0) (v0 := v0) (xs := pre ++ (encVers e.vers)) (ys := encSrcs e.srcs) (xv := ss) rfl rfl rfl (by decide) (by kernel_rfl) (enter_of Try.func99 (by kernel_rfl) rfl) (fun _ _ h => h) ⟨by decide, true, by kernel_rfl, fun _ _ h => h⟩ rfl (fun w v hJ ho hi => sources_app v ss e.srcs (pre ++ (encVers e.vers)) w B ho hi ⟨hs.1.below hJ.1.2 hs.2, hs.2⟩ hJ.1.1 hsw hl1) (fun w hJ => hJ.1.1) (fun _ _ h => h)
set_option maxRecDepth 100000 in
theorem r163_o7 (ps0 : String) (B : Nat) (W0 wd : World) (v0 : Value) (pre : List Nat) (X : Nat) (e : LE) (vv ss : Value) (hv : Sl wd 3 vv e.vers.length (e.vers.flatMap vercells) ∧ Lo vv B) (hs : Sl wd 2 ss e.srcs.length (e.srcs.flatMap srccells) ∧ Lo ss B) (hvw : ∀ x ∈ e.vers, x.wf) (hsw : ∀ x ∈ e.srcs, x.wf) (hl0 : (pre).length + 20 + 30 * e.vers.length ≤ 1099511627776) (hl1 : (pre ++ (encVers e.vers)).length + 20 + 20 * e.srcs.length ≤ 1099511627776) : ObL Try.prog (r163ops ps0).toArray 52 (fun t => (r163A B W0 wd v0 pre X e vv ss).getD t Fk.any) (fun t => (r163Z B W0 wd v0 pre X e vv ss).getD t Fk.any) (r163J B W0 wd v0 pre X e vv ss) true 7 (r163p7 ps0) := lo_move 32 0 true (.inr rfl) rfl rfl (by decide) (by kernel_rfl) (fun _ _ h => h)
set_option maxRecDepth 100000 in
theorem r163_ob (ps0 : String) (B : Nat) (W0 wd : World) (v0 : Value) (pre : List Nat) (X : Nat) (e : LE) (vv ss : Value) (hv : Sl wd 3 vv e.vers.length (e.vers.flatMap vercells) ∧ Lo vv B) (hs : Sl wd 2 ss e.srcs.length (e.srcs.flatMap srccells) ∧ Lo ss B) (hvw : ∀ x ∈ e.vers, x.wf) (hsw : ∀ x ∈ e.srcs, x.wf) (hl0 : (pre).length + 20 + 30 * e.vers.length ≤ 1099511627776) (hl1 : (pre ++ (encVers e.vers)).length + 20 + 20 * e.srcs.length ≤ 1099511627776) : ObLAll Try.prog (r163ops ps0).toArray 52 (fun t => (r163A B W0 wd v0 pre X e vv ss).getD t Fk.any) (fun t => (r163Z B W0 wd v0 pre X e vv ss).getD t Fk.any) (r163J B W0 wd v0 pre X e vv ss) 0 [true, true, true, false, true, true, false, true] (r163ops ps0) := ⟨r163_o0 ps0 B W0 wd v0 pre X e vv ss hv hs hvw hsw hl0 hl1, r163_o1 ps0 B W0 wd v0 pre X e vv ss hv hs hvw hsw hl0 hl1, r163_o2 ps0 B W0 wd v0 pre X e vv ss hv hs hvw hsw hl0 hl1, r163_o3 ps0 B W0 wd v0 pre X e vv ss hv hs hvw hsw hl0 hl1, r163_o4 ps0 B W0 wd v0 pre X e vv ss hv hs hvw hsw hl0 hl1, r163_o5 ps0 B W0 wd v0 pre X e vv ss hv hs hvw hsw hl0 hl1, r163_o6 ps0 B W0 wd v0 pre X e vv ss hv hs hvw hsw hl0 hl1, r163_o7 ps0 B W0 wd v0 pre X e vv ss hv hs hvw hsw hl0 hl1, trivial⟩

set_option maxRecDepth 100000 in
set_option maxHeartbeats 4000000 in
theorem entry_app (v s : Value) (e : LE) (w : World) (hv : Sl w 3 v e.vers.length (e.vers.flatMap vercells) ∧ Lo v w.heap.size) (hs : Sl w 2 s e.srcs.length (e.srcs.flatMap srccells) ∧ Lo s w.heap.size) (hw : e.wf) (hsm : e.small) :
    Calls Try.prog 163 #[nilS, leval e v s] w (AppPost w nilS (encLE e)) := by
  have hn := LE.ns_wf hw
  have hel := flat_enc_len [e.kind, e.day, e.plan, e.step] hn
  unfold leval
  have HV := hid hv
  have HS := hid hs
  have HW := hid hw
  have HSM := hid hsm
  have HN := hid hn
  have HE := hid (show ([e.kind, e.day, e.plan, e.step].flatMap enc).length ≤ 40 from hel)
  generalize hC : lecells e v s = C at *
  have HC := hid hC
  clear hv hs hw hsm hn hel hC
  by_cases h1 : e.kind = 1
  · have HK := hid h1
    clear h1
    go_enter Try.func163, Try.ntmps163
    have ga := World.grownBy_alloc w (.cells C.toArray 111) none
    have hb0 := heap_at (w := w) (o := .cells C.toArray 111) rfl
    have c0 : (w.alloc (.cells C.toArray 111)).cell? ⟨w.heap.size, 0, none⟩ = some (.int .i64 e.kind) := by rw [cell_of_row _ _ _ _ _ _ hb0, ← HC.out]; rfl
    have c1 : (w.alloc (.cells C.toArray 111)).cell? ⟨w.heap.size, 1, none⟩ = some (.int .i64 e.day) := by rw [cell_of_row _ _ _ _ _ _ hb0, ← HC.out]; rfl
    have c2 : (w.alloc (.cells C.toArray 111)).cell? ⟨w.heap.size, 2, none⟩ = some (.int .i64 e.plan) := by rw [cell_of_row _ _ _ _ _ _ hb0, ← HC.out]; rfl
    have c3 : (w.alloc (.cells C.toArray 111)).cell? ⟨w.heap.size, 3, none⟩ = some (.int .i64 e.step) := by rw [cell_of_row _ _ _ _ _ _ hb0, ← HC.out]; rfl
    have GA := hid ga
    have HB0 := hid hb0
    clear ga hb0
    go_wp2_with fail
    refine (intsLH_walk nilS [e.kind, e.day, e.plan, e.step] [] (w.alloc (.cells C.toArray 111)) _ _ 4 (w.heap.size + 1) (by simp) (Own.nil _ _ _) rfl rfl HN.out (by simp)).mono ?_
    rintro en w2 ⟨v2, rfl, hown2, hst2⟩
    simp only [List.nil_append] at hown2
    have B2 := hid (row_of hst2.1 HB0.out (by simp [nilS, Value.ownBlock]))
    have O2 := hid hown2
    have F2 := hid (show Fresh w w2 v2 from Step.grown GA.out hst2)
    clear c0 c1 c2 c3 hown2 hst2
    have c0 : w2.cell? ⟨w.heap.size, 0, none⟩ = some (.int .i64 e.kind) := by rw [cell_of_row _ _ _ _ _ _ B2.out, ← HC.out]; rfl
    have c1 : w2.cell? ⟨w.heap.size, 1, none⟩ = some (.int .i64 e.day) := by rw [cell_of_row _ _ _ _ _ _ B2.out, ← HC.out]; rfl
    have c2 : w2.cell? ⟨w.heap.size, 2, none⟩ = some (.int .i64 e.plan) := by rw [cell_of_row _ _ _ _ _ _ B2.out, ← HC.out]; rfl
    have c3 : w2.cell? ⟨w.heap.size, 3, none⟩ = some (.int .i64 e.step) := by rw [cell_of_row _ _ _ _ _ _ B2.out, ← HC.out]; rfl
    have b1 : (e.kind == 1) = true := by rw [HK.out]; rfl
    have hr : w2.rangeAt w.heap.size 4 (reqcells e.req) := range_row B2.out 4 _ (by rw [← HC.out]; exact le_req e v s)
    have HRG := hid hr
    clear hr
    go_wp2_with (first | (refine wpList_loadAt rfl 105 (.tmp 21) rfl rfl (tyReq e.req) HRG.out ?_) | fail)
    refine (request_app v2 e.req ([e.kind, e.day, e.plan, e.step].flatMap enc) w2 O2.out HW.out.req (by have := HE.out; have := HSM.out.req; have := HSM.out.lnk; have := HSM.out.hld; omega)).mono ?_
    rintro en w3 ⟨v3, rfl, hown3, hst3⟩
    have O3 := hid hown3
    have S3 := hid (F2.out.trans hst3)
    clear hown3 hst3 c0 c1 c2 c3
    go_wp2
    go_ret
    exact ⟨_, rfl, by rw [encLE_of (show encLEt e = encReq e.req by unfold encLEt; rw [if_pos HK.out])]; exact O3.out, S3.out⟩
  by_cases h2 : e.kind = 2
  · have HK := hid h2
    clear h2
    go_enter Try.func163, Try.ntmps163
    have ga := World.grownBy_alloc w (.cells C.toArray 111) none
    have hb0 := heap_at (w := w) (o := .cells C.toArray 111) rfl
    have c0 : (w.alloc (.cells C.toArray 111)).cell? ⟨w.heap.size, 0, none⟩ = some (.int .i64 e.kind) := by rw [cell_of_row _ _ _ _ _ _ hb0, ← HC.out]; rfl
    have c1 : (w.alloc (.cells C.toArray 111)).cell? ⟨w.heap.size, 1, none⟩ = some (.int .i64 e.day) := by rw [cell_of_row _ _ _ _ _ _ hb0, ← HC.out]; rfl
    have c2 : (w.alloc (.cells C.toArray 111)).cell? ⟨w.heap.size, 2, none⟩ = some (.int .i64 e.plan) := by rw [cell_of_row _ _ _ _ _ _ hb0, ← HC.out]; rfl
    have c3 : (w.alloc (.cells C.toArray 111)).cell? ⟨w.heap.size, 3, none⟩ = some (.int .i64 e.step) := by rw [cell_of_row _ _ _ _ _ _ hb0, ← HC.out]; rfl
    have GA := hid ga
    have HB0 := hid hb0
    clear ga hb0
    go_wp2_with fail
    refine (intsLH_walk nilS [e.kind, e.day, e.plan, e.step] [] (w.alloc (.cells C.toArray 111)) _ _ 4 (w.heap.size + 1) (by simp) (Own.nil _ _ _) rfl rfl HN.out (by simp)).mono ?_
    rintro en w2 ⟨v2, rfl, hown2, hst2⟩
    simp only [List.nil_append] at hown2
    have B2 := hid (row_of hst2.1 HB0.out (by simp [nilS, Value.ownBlock]))
    have O2 := hid hown2
    have F2 := hid (show Fresh w w2 v2 from Step.grown GA.out hst2)
    clear c0 c1 c2 c3 hown2 hst2
    have c0 : w2.cell? ⟨w.heap.size, 0, none⟩ = some (.int .i64 e.kind) := by rw [cell_of_row _ _ _ _ _ _ B2.out, ← HC.out]; rfl
    have c1 : w2.cell? ⟨w.heap.size, 1, none⟩ = some (.int .i64 e.day) := by rw [cell_of_row _ _ _ _ _ _ B2.out, ← HC.out]; rfl
    have c2 : w2.cell? ⟨w.heap.size, 2, none⟩ = some (.int .i64 e.plan) := by rw [cell_of_row _ _ _ _ _ _ B2.out, ← HC.out]; rfl
    have c3 : w2.cell? ⟨w.heap.size, 3, none⟩ = some (.int .i64 e.step) := by rw [cell_of_row _ _ _ _ _ _ B2.out, ← HC.out]; rfl
    have b1 : (e.kind == 1) = false := by rw [HK.out]; rfl
    have b2 : (e.kind == 2) = true := by rw [HK.out]; rfl
    have HVL := hid (encVers_len HW.out.vers (by have := HSM.out.vers; omega))
    have HSL := hid (encSrcs_len HW.out.srcs (by have := HSM.out.srcs; omega))
    have hl0 : (([e.kind, e.day, e.plan, e.step].flatMap enc)).length + 20 + 30 * e.vers.length ≤ 1099511627776 := by have := HE.out; have := HVL.out; have := HSL.out; have := HSM.out.vers; have := HSM.out.srcs; first | omega | (simp only [List.length_append]; omega)
    have hl1 : (([e.kind, e.day, e.plan, e.step].flatMap enc) ++ (encVers e.vers)).length + 20 + 20 * e.srcs.length ≤ 1099511627776 := by have := HE.out; have := HVL.out; have := HSL.out; have := HSM.out.vers; have := HSM.out.srcs; first | omega | (simp only [List.length_append]; omega)
    have hi2 : Hi v2 (w.heap.size + 1) := fun k hk => by
      have h9 := F2.out.lo k hk
      have h8 : k ≠ w.heap.size := fun e => Own.ne O2.out B2.out (by decide) (by rw [hk, e])
      omega
    have g2 := Step.none F2.out
    have hv2 : Sl w2 3 v e.vers.length (e.vers.flatMap vercells) ∧ Lo v (w.heap.size + 1) := ⟨HV.out.1.kn g2, HV.out.2.mono (Nat.le_succ _)⟩
    have hs2 : Sl w2 2 s e.srcs.length (e.srcs.flatMap srccells) ∧ Lo s (w.heap.size + 1) := ⟨HS.out.1.kn g2, HS.out.2.mono (Nat.le_succ _)⟩
    have hvw := HW.out.vers
    have hsw := HW.out.srcs
    go_wp2_with fail
    refine region_linl mixed 5 (w.heap.size + 1) 52 _ _ _ _ (r163A (w.heap.size + 1) w w2 nilS ([e.kind, e.day, e.plan, e.step].flatMap enc) w.heap.size e v s) (r163Z (w.heap.size + 1) w w2 nilS ([e.kind, e.day, e.plan, e.step].flatMap enc) w.heap.size e v s) (r163J (w.heap.size + 1) w w2 nilS ([e.kind, e.day, e.plan, e.step].flatMap enc) w.heap.size e v s) (fun w w' hu ⟨⟨h1, h2⟩, h3⟩ => ⟨⟨Nat.le_trans h1 hu.size, h2.trans (hu.below h1)⟩, hu.row (by decide) h3⟩) ?_ ?_ (r163_reg _) _ (r163_m _) rfl rfl rfl rfl ?_ (r163_ob _ (w.heap.size + 1) w w2 nilS ([e.kind, e.day, e.plan, e.step].flatMap enc) w.heap.size e v s hv2 hs2 hvw hsw hl0 hl1) ?_
    · exact ⟨⟨by have := (Array.getElem?_eq_some_iff.1 B2.out).1; omega, Below.refl _ _⟩, by rw [HC.out]; exact B2.out⟩
    · rfl
    · exact (fun t ht => InitF.at (L := r163A (w.heap.size + 1) w w2 nilS ([e.kind, e.day, e.plan, e.step].flatMap enc) w.heap.size e v s) (by exact ⟨⟨O2.out, F2.out, hi2⟩, trivial, trivial, rfl, trivial, trivial, trivial, trivial, trivial, trivial, trivial, trivial, trivial, trivial, trivial, trivial, trivial, trivial, trivial, trivial, trivial, trivial, trivial, trivial, trivial, trivial, trivial, trivial, trivial, trivial, trivial, trivial, trivial, trivial, trivial, trivial, trivial, trivial, trivial, trivial, trivial, trivial, trivial, trivial, trivial, trivial, trivial, trivial, trivial, trivial, trivial, trivial, trivial⟩) t ht ht)
    intro y w5 hJ5 hk5
    have hf : (Fk.own (E := 5) (B := w.heap.size + 1) w nilS (([e.kind, e.day, e.plan, e.step].flatMap enc) ++ (encVers e.vers) ++ (encSrcs e.srcs))).on w5 (y 0) := hk5 0 (by simp)
    obtain ⟨f1, f2, f3⟩ := hf
    have F1 := hid f1
    have F3 := hid f2
    simp only [frameOf, Bool.false_eq_true, if_false, if_true]
    generalize y 0 = y3 at *
    clear f1 f2 f3 hk5 hJ5 hi2 g2 hv2 hs2 hvw hsw
    go_wp2
    go_ret
    exact ⟨_, rfl, by rw [encLE_of (show encLEt e = encVers e.vers ++ encSrcs e.srcs by unfold encLEt; rw [if_neg h1, if_pos HK.out]), ← List.append_assoc]; exact F1.out, F3.out⟩
  by_cases h4 : e.kind = 4
  · have HK := hid h4
    clear h4
    go_enter Try.func163, Try.ntmps163
    have ga := World.grownBy_alloc w (.cells C.toArray 111) none
    have hb0 := heap_at (w := w) (o := .cells C.toArray 111) rfl
    have c0 : (w.alloc (.cells C.toArray 111)).cell? ⟨w.heap.size, 0, none⟩ = some (.int .i64 e.kind) := by rw [cell_of_row _ _ _ _ _ _ hb0, ← HC.out]; rfl
    have c1 : (w.alloc (.cells C.toArray 111)).cell? ⟨w.heap.size, 1, none⟩ = some (.int .i64 e.day) := by rw [cell_of_row _ _ _ _ _ _ hb0, ← HC.out]; rfl
    have c2 : (w.alloc (.cells C.toArray 111)).cell? ⟨w.heap.size, 2, none⟩ = some (.int .i64 e.plan) := by rw [cell_of_row _ _ _ _ _ _ hb0, ← HC.out]; rfl
    have c3 : (w.alloc (.cells C.toArray 111)).cell? ⟨w.heap.size, 3, none⟩ = some (.int .i64 e.step) := by rw [cell_of_row _ _ _ _ _ _ hb0, ← HC.out]; rfl
    have GA := hid ga
    have HB0 := hid hb0
    clear ga hb0
    go_wp2_with fail
    refine (intsLH_walk nilS [e.kind, e.day, e.plan, e.step] [] (w.alloc (.cells C.toArray 111)) _ _ 4 (w.heap.size + 1) (by simp) (Own.nil _ _ _) rfl rfl HN.out (by simp)).mono ?_
    rintro en w2 ⟨v2, rfl, hown2, hst2⟩
    simp only [List.nil_append] at hown2
    have B2 := hid (row_of hst2.1 HB0.out (by simp [nilS, Value.ownBlock]))
    have O2 := hid hown2
    have F2 := hid (show Fresh w w2 v2 from Step.grown GA.out hst2)
    clear c0 c1 c2 c3 hown2 hst2
    have c0 : w2.cell? ⟨w.heap.size, 0, none⟩ = some (.int .i64 e.kind) := by rw [cell_of_row _ _ _ _ _ _ B2.out, ← HC.out]; rfl
    have c1 : w2.cell? ⟨w.heap.size, 1, none⟩ = some (.int .i64 e.day) := by rw [cell_of_row _ _ _ _ _ _ B2.out, ← HC.out]; rfl
    have c2 : w2.cell? ⟨w.heap.size, 2, none⟩ = some (.int .i64 e.plan) := by rw [cell_of_row _ _ _ _ _ _ B2.out, ← HC.out]; rfl
    have c3 : w2.cell? ⟨w.heap.size, 3, none⟩ = some (.int .i64 e.step) := by rw [cell_of_row _ _ _ _ _ _ B2.out, ← HC.out]; rfl
    have b1 : (e.kind == 1) = false := by rw [HK.out]; rfl
    have b2 : (e.kind == 2) = false := by rw [HK.out]; rfl
    have b4 : (e.kind == 4) = true := by rw [HK.out]; rfl
    have hr : w2.rangeAt w.heap.size 33 (bv e.root) := range_row B2.out 33 _ (by rw [← HC.out]; exact le_root e v s)
    have hrt := HW.out.root.1
    have HSL := hid (show Sl w2 1 (.slice (some ⟨w.heap.size, 33, none⟩) 32 32) 32 (bv e.root) from ⟨by rw [bv_length, hrt], _, 32, rfl, Nat.le_refl _, by unfold maxLen; omega, fun h => absurd h (by simp), fun a ha => ⟨by cases ha; rfl, fun j u hu => by cases ha; exact hr j u hu⟩⟩)
    have HRT := hid hrt
    clear hr hrt c0 c1 c2 c3
    have c0 : w2.cell? ⟨w.heap.size, 0, none⟩ = some (.int .i64 e.kind) := by rw [cell_of_row _ _ _ _ _ _ B2.out, ← HC.out]; rfl
    go_wp2_with (at_builtin; go_must (refine wpList_app bytesT rfl _ _ rfl _ _ _ rfl O2.out _ _ _ rfl HSL.out bv_ones (by have := HE.out; omega) ?_; intro v5 w5 hown5 hst5))
    go_ret
    rw [← HRT.out, ← List.length_append, ← bv_append] at hown5
    exact ⟨_, rfl, by rw [encLE_of (show encLEt e = e.root by unfold encLEt; rw [if_neg h1, if_neg h2, if_pos HK.out])]; exact hown5, F2.out.trans hst5⟩
  by_cases h6 : e.kind = 6
  · have HK := hid h6
    clear h6
    go_enter Try.func163, Try.ntmps163
    have ga := World.grownBy_alloc w (.cells C.toArray 111) none
    have hb0 := heap_at (w := w) (o := .cells C.toArray 111) rfl
    have c0 : (w.alloc (.cells C.toArray 111)).cell? ⟨w.heap.size, 0, none⟩ = some (.int .i64 e.kind) := by rw [cell_of_row _ _ _ _ _ _ hb0, ← HC.out]; rfl
    have c1 : (w.alloc (.cells C.toArray 111)).cell? ⟨w.heap.size, 1, none⟩ = some (.int .i64 e.day) := by rw [cell_of_row _ _ _ _ _ _ hb0, ← HC.out]; rfl
    have c2 : (w.alloc (.cells C.toArray 111)).cell? ⟨w.heap.size, 2, none⟩ = some (.int .i64 e.plan) := by rw [cell_of_row _ _ _ _ _ _ hb0, ← HC.out]; rfl
    have c3 : (w.alloc (.cells C.toArray 111)).cell? ⟨w.heap.size, 3, none⟩ = some (.int .i64 e.step) := by rw [cell_of_row _ _ _ _ _ _ hb0, ← HC.out]; rfl
    have GA := hid ga
    have HB0 := hid hb0
    clear ga hb0
    go_wp2_with fail
    refine (intsLH_walk nilS [e.kind, e.day, e.plan, e.step] [] (w.alloc (.cells C.toArray 111)) _ _ 4 (w.heap.size + 1) (by simp) (Own.nil _ _ _) rfl rfl HN.out (by simp)).mono ?_
    rintro en w2 ⟨v2, rfl, hown2, hst2⟩
    simp only [List.nil_append] at hown2
    have B2 := hid (row_of hst2.1 HB0.out (by simp [nilS, Value.ownBlock]))
    have O2 := hid hown2
    have F2 := hid (show Fresh w w2 v2 from Step.grown GA.out hst2)
    clear c0 c1 c2 c3 hown2 hst2
    have c0 : w2.cell? ⟨w.heap.size, 0, none⟩ = some (.int .i64 e.kind) := by rw [cell_of_row _ _ _ _ _ _ B2.out, ← HC.out]; rfl
    have c1 : w2.cell? ⟨w.heap.size, 1, none⟩ = some (.int .i64 e.day) := by rw [cell_of_row _ _ _ _ _ _ B2.out, ← HC.out]; rfl
    have c2 : w2.cell? ⟨w.heap.size, 2, none⟩ = some (.int .i64 e.plan) := by rw [cell_of_row _ _ _ _ _ _ B2.out, ← HC.out]; rfl
    have c3 : w2.cell? ⟨w.heap.size, 3, none⟩ = some (.int .i64 e.step) := by rw [cell_of_row _ _ _ _ _ _ B2.out, ← HC.out]; rfl
    have b1 : (e.kind == 1) = false := by rw [HK.out]; rfl
    have b2 : (e.kind == 2) = false := by rw [HK.out]; rfl
    have b4 : (e.kind == 4) = false := by rw [HK.out]; rfl
    have b6 : (e.kind == 6) = true := by rw [HK.out]; rfl
    have hr : w2.rangeAt w.heap.size 12 (lnkcells e.lnk) := range_row B2.out 12 _ (by rw [← HC.out]; exact le_lnk e v s)
    have HRG := hid hr
    clear hr
    go_wp2_with (first | (refine wpList_loadAt rfl 107 (.tmp 42) rfl rfl (tyLnk e.lnk) HRG.out ?_) | fail)
    refine (link_app v2 e.lnk ([e.kind, e.day, e.plan, e.step].flatMap enc) w2 O2.out HW.out.lnk (by have := HE.out; have := HSM.out.req; have := HSM.out.lnk; have := HSM.out.hld; omega)).mono ?_
    rintro en w3 ⟨v3, rfl, hown3, hst3⟩
    have O3 := hid hown3
    have S3 := hid (F2.out.trans hst3)
    clear hown3 hst3 c0 c1 c2 c3
    go_wp2
    go_ret
    exact ⟨_, rfl, by rw [encLE_of (show encLEt e = encLnk e.lnk by unfold encLEt; rw [if_neg h1, if_neg h2, if_neg h4, if_pos HK.out])]; exact O3.out, S3.out⟩
  by_cases h7 : e.kind = 7
  · have HK := hid h7
    clear h7
    go_enter Try.func163, Try.ntmps163
    have ga := World.grownBy_alloc w (.cells C.toArray 111) none
    have hb0 := heap_at (w := w) (o := .cells C.toArray 111) rfl
    have c0 : (w.alloc (.cells C.toArray 111)).cell? ⟨w.heap.size, 0, none⟩ = some (.int .i64 e.kind) := by rw [cell_of_row _ _ _ _ _ _ hb0, ← HC.out]; rfl
    have c1 : (w.alloc (.cells C.toArray 111)).cell? ⟨w.heap.size, 1, none⟩ = some (.int .i64 e.day) := by rw [cell_of_row _ _ _ _ _ _ hb0, ← HC.out]; rfl
    have c2 : (w.alloc (.cells C.toArray 111)).cell? ⟨w.heap.size, 2, none⟩ = some (.int .i64 e.plan) := by rw [cell_of_row _ _ _ _ _ _ hb0, ← HC.out]; rfl
    have c3 : (w.alloc (.cells C.toArray 111)).cell? ⟨w.heap.size, 3, none⟩ = some (.int .i64 e.step) := by rw [cell_of_row _ _ _ _ _ _ hb0, ← HC.out]; rfl
    have GA := hid ga
    have HB0 := hid hb0
    clear ga hb0
    go_wp2_with fail
    refine (intsLH_walk nilS [e.kind, e.day, e.plan, e.step] [] (w.alloc (.cells C.toArray 111)) _ _ 4 (w.heap.size + 1) (by simp) (Own.nil _ _ _) rfl rfl HN.out (by simp)).mono ?_
    rintro en w2 ⟨v2, rfl, hown2, hst2⟩
    simp only [List.nil_append] at hown2
    have B2 := hid (row_of hst2.1 HB0.out (by simp [nilS, Value.ownBlock]))
    have O2 := hid hown2
    have F2 := hid (show Fresh w w2 v2 from Step.grown GA.out hst2)
    clear c0 c1 c2 c3 hown2 hst2
    have c0 : w2.cell? ⟨w.heap.size, 0, none⟩ = some (.int .i64 e.kind) := by rw [cell_of_row _ _ _ _ _ _ B2.out, ← HC.out]; rfl
    have c1 : w2.cell? ⟨w.heap.size, 1, none⟩ = some (.int .i64 e.day) := by rw [cell_of_row _ _ _ _ _ _ B2.out, ← HC.out]; rfl
    have c2 : w2.cell? ⟨w.heap.size, 2, none⟩ = some (.int .i64 e.plan) := by rw [cell_of_row _ _ _ _ _ _ B2.out, ← HC.out]; rfl
    have c3 : w2.cell? ⟨w.heap.size, 3, none⟩ = some (.int .i64 e.step) := by rw [cell_of_row _ _ _ _ _ _ B2.out, ← HC.out]; rfl
    have b1 : (e.kind == 1) = false := by rw [HK.out]; rfl
    have b2 : (e.kind == 2) = false := by rw [HK.out]; rfl
    have b4 : (e.kind == 4) = false := by rw [HK.out]; rfl
    have b6 : (e.kind == 6) = false := by rw [HK.out]; rfl
    have b7 : (e.kind == 7) = true := by rw [HK.out]; rfl
    have hr : w2.rangeAt w.heap.size 22 (hldcells e.hld) := range_row B2.out 22 _ (by rw [← HC.out]; exact le_hld e v s)
    have HRG := hid hr
    clear hr
    go_wp2_with (first | (refine wpList_loadAt rfl 109 (.tmp 48) rfl rfl (tyHld e.hld) HRG.out ?_) | fail)
    refine (hold_app v2 e.hld ([e.kind, e.day, e.plan, e.step].flatMap enc) w2 O2.out HW.out.hld (by have := HE.out; have := HSM.out.req; have := HSM.out.lnk; have := HSM.out.hld; omega)).mono ?_
    rintro en w3 ⟨v3, rfl, hown3, hst3⟩
    have O3 := hid hown3
    have S3 := hid (F2.out.trans hst3)
    clear hown3 hst3 c0 c1 c2 c3
    go_wp2
    go_ret
    exact ⟨_, rfl, by rw [encLE_of (show encLEt e = encHld e.hld by unfold encLEt; rw [if_neg h1, if_neg h2, if_neg h4, if_neg h6, if_pos HK.out])]; exact O3.out, S3.out⟩
  · go_enter Try.func163, Try.ntmps163
    have ga := World.grownBy_alloc w (.cells C.toArray 111) none
    have hb0 := heap_at (w := w) (o := .cells C.toArray 111) rfl
    have c0 : (w.alloc (.cells C.toArray 111)).cell? ⟨w.heap.size, 0, none⟩ = some (.int .i64 e.kind) := by rw [cell_of_row _ _ _ _ _ _ hb0, ← HC.out]; rfl
    have c1 : (w.alloc (.cells C.toArray 111)).cell? ⟨w.heap.size, 1, none⟩ = some (.int .i64 e.day) := by rw [cell_of_row _ _ _ _ _ _ hb0, ← HC.out]; rfl
    have c2 : (w.alloc (.cells C.toArray 111)).cell? ⟨w.heap.size, 2, none⟩ = some (.int .i64 e.plan) := by rw [cell_of_row _ _ _ _ _ _ hb0, ← HC.out]; rfl
    have c3 : (w.alloc (.cells C.toArray 111)).cell? ⟨w.heap.size, 3, none⟩ = some (.int .i64 e.step) := by rw [cell_of_row _ _ _ _ _ _ hb0, ← HC.out]; rfl
    have GA := hid ga
    have HB0 := hid hb0
    clear ga hb0
    go_wp2_with fail
    refine (intsLH_walk nilS [e.kind, e.day, e.plan, e.step] [] (w.alloc (.cells C.toArray 111)) _ _ 4 (w.heap.size + 1) (by simp) (Own.nil _ _ _) rfl rfl HN.out (by simp)).mono ?_
    rintro en w2 ⟨v2, rfl, hown2, hst2⟩
    simp only [List.nil_append] at hown2
    have B2 := hid (row_of hst2.1 HB0.out (by simp [nilS, Value.ownBlock]))
    have O2 := hid hown2
    have F2 := hid (show Fresh w w2 v2 from Step.grown GA.out hst2)
    clear c0 c1 c2 c3 hown2 hst2
    have c0 : w2.cell? ⟨w.heap.size, 0, none⟩ = some (.int .i64 e.kind) := by rw [cell_of_row _ _ _ _ _ _ B2.out, ← HC.out]; rfl
    have c1 : w2.cell? ⟨w.heap.size, 1, none⟩ = some (.int .i64 e.day) := by rw [cell_of_row _ _ _ _ _ _ B2.out, ← HC.out]; rfl
    have c2 : w2.cell? ⟨w.heap.size, 2, none⟩ = some (.int .i64 e.plan) := by rw [cell_of_row _ _ _ _ _ _ B2.out, ← HC.out]; rfl
    have c3 : w2.cell? ⟨w.heap.size, 3, none⟩ = some (.int .i64 e.step) := by rw [cell_of_row _ _ _ _ _ _ B2.out, ← HC.out]; rfl
    have b1 : (e.kind == 1) = false := by simpa using h1
    have b2 : (e.kind == 2) = false := by simpa using h2
    have b4 : (e.kind == 4) = false := by simpa using h4
    have b6 : (e.kind == 6) = false := by simpa using h6
    have b7 : (e.kind == 7) = false := by simpa using h7
    go_wp2
    go_ret
    exact ⟨_, rfl, by rw [encLE_of (show encLEt e = [] by unfold encLEt; rw [if_neg h1, if_neg h2, if_neg h4, if_neg h6, if_neg h7]), List.append_nil]; exact O2.out, F2.out⟩
end Go.Proofs.Ytkeiffccllfkpaa
