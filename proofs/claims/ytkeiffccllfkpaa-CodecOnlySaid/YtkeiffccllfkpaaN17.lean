/- Ledger entries: their cells; the reference's Bytes and Entry. -/
import Derived.Test.YtkeiffccllfkpaaN9
import Derived.Test.YtkeiffccllfkpaaN13
import Derived.Test.YtkeiffccllfkpaaN11
namespace Go.Proofs.Ytkeiffccllfkpaa
open Go.RowKit
set_option linter.unusedSimpArgs false

set_option maxRecDepth 100000 in
set_option maxHeartbeats 1000000 in
theorem refBytes_walk (x : List Nat) (hx : x.length = 32) (w : World) :
    Calls Try.prog 136 #[.agg (bv x).toArray] w fun e w' => ∃ v, e = .returned v ∧ Own w' 5 1 v x.length (bv x) ∧ Fresh w w' v := by
  generalize hC : bv x = C
  have HC := hid hC
  have hlen : C.length = 32 := by rw [← hC, bv_length, hx]
  have HT := hid (fun (k : Nat) (hk : k < x.length) => List.take_succ_eq_append_getElem hk)
  have HX := hid hx
  clear hC hx
  go_enter Try.func136, Try.ntmps136
  go_wp2
  have ga := World.grownBy_alloc w (.cells C.toArray 45) none
  have hb0 := heap_at (w := w) (o := .cells C.toArray 45) rfl
  have hz : (w.alloc (.cells C.toArray 45)).heap.size = w.heap.size + 1 := by simp
  have he := Own.empty (w.alloc (.cells C.toArray 45))
  have hfe : Fresh w ((w.alloc (.cells C.toArray 45)).alloc (.cells #[] 5)) (.slice (some ⟨w.heap.size + 1, 0, none⟩) 0 0) := ⟨grown_trans ga (World.grownBy_alloc _ _ _), fun k hk => .inr (by simp [Value.ownBlock] at hk; omega)⟩
  rw [hz] at he
  have hb1 := row_of (World.grownBy_alloc (w.alloc (.cells C.toArray 45)) (.cells #[] 5) none) hb0 (by simp)
  go_loopw [3, 4] (fun b i wr => ∃ k : Nat, k ≤ 32 ∧ i = .int .i64 k ∧ Own wr 5 1 b (x.take k).length (bv (x.take k)) ∧ Fresh w wr b ∧ wr.heap[w.heap.size]? = some (.cells C.toArray 45 (0, 0))) (fun _ i _ => 32 - (intOf i).toNat)
  case atStart => exact ⟨0, by omega, rfl, he, hfe, hb1⟩
  case round =>
    clear ga hb0 hz he hfe hb1
    obtain ⟨k, hk, rfl, hown, hst, hb⟩ := hrel
    have OK := hid hown
    have SK := hid hst
    have BK := hid hb
    clear hown hst hb
    by_cases hlt : k < 32
    · have hkx : k < x.length := by have := HX.out; omega
      have h0 : wr.cell? ⟨w.heap.size, k, none⟩ = some (.int .u8 (x[k] : Int)) := by
        rw [cell_of_row wr _ k _ _ _ BK.out, ← HC.out]
        simp [bv, List.getElem?_eq_getElem hkx]
      have hT := hid (HT.out k hkx)
      have hl : (x.take k).length ≤ 32 := by have := List.length_take_le k x; omega
      generalize x[k] = y at *
      go_wp2_with (at_builtin; go_must (refine wpList_pushH bytesT rfl _ _ rfl _ _ _ rfl OK.out [.int .u8 (y : Int)] 1 _ rfl rfl rfl rfl (by omega) ?_; intro v5 w5 hown5 hst5))
      go_roundw
      case rel => exact ⟨k + 1, by omega, by go_num, by rw [hT.out, List.length_append, bv_append]; exact hown5, SK.out.trans hst5, row_of hst5.1 BK.out (fun e => Own.ne OK.out BK.out (by decide) e.symm)⟩
      case measure => simp [intOf]; omega
    · obtain rfl : k = 32 := by omega
      have ht : x.take 32 = x := List.take_of_length_le (by have := HX.out; omega)
      have O := OK.out
      rw [ht] at O
      have OO := hid O
      clear O ht
      go_wp2
      go_ret
      exact ⟨_, rfl, by rw [← HC.out]; exact OO.out, SK.out⟩

/-- the cells of a ledger entry; v and s: the slices of its versions and sources -/
def lecells (e : LE) (v s : Value) : List Value := [.int .i64 e.kind, .int .i64 e.day, .int .i64 e.plan, .int .i64 e.step] ++ (reqcells e.req ++ (lnkcells e.lnk ++ (hldcells e.hld ++ ([v, s] ++ bv e.root))))
def leval (e : LE) (v s : Value) : Value := .agg (lecells e v s).toArray
theorem lecells_len (e : LE) (v s : Value) (h : e.root.length = 32) : (lecells e v s).length = 65 := by
  simp [lecells, reqcells, lnkcells, hldcells, idfcells, bv_length, h]
theorem reqcells_len (q : Req) : (reqcells q).length = 8 := rfl
theorem lnkcells_len (q : Lnk) : (lnkcells q).length = 10 := rfl
theorem hldcells_len (q : Hld) : (hldcells q).length = 9 := rfl
theorem mid_at {a b c : List Value} {n m : Nat} (h : a.length = n) (hb : b.length = m) : ((a ++ (b ++ c)).drop n).take m = b := by
  subst h hb
  rw [List.drop_left', List.take_left'] <;> rfl
theorem le_req (e : LE) (v s : Value) : ((lecells e v s).drop 4).take (reqcells e.req).length = reqcells e.req := mid_at rfl rfl
theorem le_lnk (e : LE) (v s : Value) : ((lecells e v s).drop 12).take (lnkcells e.lnk).length = lnkcells e.lnk := by
  unfold lecells
  rw [← List.append_assoc]
  exact mid_at rfl rfl
theorem le_hld (e : LE) (v s : Value) : ((lecells e v s).drop 22).take (hldcells e.hld).length = hldcells e.hld := by
  unfold lecells
  rw [← List.append_assoc, ← List.append_assoc]
  exact mid_at rfl rfl
theorem le_vs (e : LE) (v s : Value) : ((lecells e v s).drop 31).take [v].length = [v] := by
  unfold lecells
  rw [← List.append_assoc, ← List.append_assoc, ← List.append_assoc]
  exact mid_at (b := [v]) (c := s :: bv e.root) rfl rfl
theorem le_ss (e : LE) (v s : Value) : ((lecells e v s).drop 32).take [s].length = [s] := by
  unfold lecells
  rw [← List.append_assoc, ← List.append_assoc, ← List.append_assoc]
  have : ([.int .i64 e.kind, .int .i64 e.day, .int .i64 e.plan, .int .i64 e.step] ++ reqcells e.req ++ lnkcells e.lnk ++ hldcells e.hld ++ ([v, s] ++ bv e.root)) = (([.int .i64 e.kind, .int .i64 e.day, .int .i64 e.plan, .int .i64 e.step] ++ reqcells e.req ++ lnkcells e.lnk ++ hldcells e.hld ++ [v]) ++ ([s] ++ bv e.root)) := by simp
  rw [this]
  exact mid_at rfl rfl
theorem le_root (e : LE) (v s : Value) : ((lecells e v s).drop 33).take (bv e.root).length = bv e.root := by
  unfold lecells
  rw [← List.append_assoc, ← List.append_assoc, ← List.append_assoc, ← List.append_assoc]
  have := mid_at (a := [.int .i64 e.kind, .int .i64 e.day, .int .i64 e.plan, .int .i64 e.step] ++ reqcells e.req ++ lnkcells e.lnk ++ hldcells e.hld ++ [v, s]) (b := bv e.root) (c := []) (n := 33) rfl rfl
  simpa using this
/-- a load from the middle of a block -/
theorem wpList_loadAt {P : Program} {ops : Array Oper} {rest : List Oper} {o : Oper} {a : Act} {w : World} {Q : Exit → Act → World → Prop} (hgd : o.guard = none) (T : TypeId) (x : Operand) (ho : o.op = .load T x)
    {b k : Nat} {cs : List Value} {v : Value} (hx : a.eval x = .pointer (some ⟨b, k, none⟩)) (ty : TY P T cs v) (hr : w.rangeAt b k cs)
    (h : wpList P ops Q rest (a.put o.dst v) w) : wpList P ops Q (o :: rest) a w := by
  refine wpList_plain hgd fun K hK => ?_
  have hl := ty.load w b k hr
  unfold Oper.wp execOp
  simp only [ho, hx, Instr.loadAt, Instr.sureAddr, Sem.run_bind, Sem.run_pure, Result.andThen_ok, hl]
  exact hK _ _ h
theorem tyVersS {w : World} {v : Value} {n m : Nat} {xs : List Value} (h : Sl w n v m xs) : TY Try.prog 42 [v] v := by
  obtain ⟨ao, cap, rfl, _⟩ := h.shape
  exact TY.one' Try.underlying42 rfl (by kernel_rfl) rfl
theorem tySrcsS {w : World} {v : Value} {n m : Nat} {xs : List Value} (h : Sl w n v m xs) : TY Try.prog 43 [v] v := by
  obtain ⟨ao, cap, rfl, _⟩ := h.shape
  exact TY.one' Try.underlying43 rfl (by kernel_rfl) rfl
def encLEh (e : LE) : List Nat := [e.kind, e.day, e.plan, e.step].flatMap enc
theorem encLE_eq (e : LE) : encLE e = encLEh e ++ encLEt e := by simp [encLE, encLEh]
theorem encLE_of {e : LE} {x : List Nat} (h : encLEt e = x) : encLE e = [e.kind, e.day, e.plan, e.step].flatMap enc ++ x := by rw [encLE_eq, h]; rfl
/-- limits that the proofs want of a ledger entry -/
structure LE.small (e : LE) : Prop where
  req : e.req.who.ns.size ≤ 1000000
  lnk : e.lnk.a.ns.size ≤ 1000000 ∧ e.lnk.b.ns.size ≤ 1000000
  hld : e.hld.who.ns.size ≤ 1000000
  vers : e.vers.length ≤ 1000
  srcs : e.srcs.length ≤ 1000
theorem LE.ns_wf {e : LE} (h : e.wf) : ∀ n ∈ [e.kind, e.day, e.plan, e.step], I64 n := by
  simp only [List.mem_cons, List.not_mem_nil, or_false]
  rintro n (rfl | rfl | rfl | rfl)
  · exact h.kind
  · exact h.day
  · exact h.plan
  · exact h.step
set_option linter.unusedVariables false
def r60p0 (ps0 : String) : Oper := { dst := some 25, op := Go.Op.move (Go.Operand.tmp 3), type := 22, pos := ps0, after := #[], guard := none }
def r60p1 (ps0 : String) : Oper := { dst := some 26, op := Go.Op.fieldAddr 111 (Go.Operand.tmp 1) 7, type := 0, pos := ps0, after := #[], guard := none }
def r60p2 (ps0 : String) : Oper := { dst := some 27, op := Go.Op.load 42 (Go.Operand.tmp 26), type := 42, pos := ps0, after := #[{ on := 1, ground := Go.Ground.data }], guard := none }
def r60p3 (ps0 : String) : Oper := { dst := some 28, op := Go.Op.call { callee := Go.Callee.value (Go.Operand.func 33), args := #[Go.Operand.tmp 27], argTypes := #[42] }, type := 22, pos := ps0, after := #[{ on := 2, ground := Go.Ground.data }], guard := none }
def r60p4 (ps0 : String) : Oper := { dst := some 29, op := Go.Op.call { callee := Go.Callee.builtin Go.Builtin.append, args := #[Go.Operand.tmp 25, Go.Operand.tmp 28], argTypes := #[22, 22] }, type := 22, pos := ps0, after := #[{ on := 0, ground := Go.Ground.data }, { on := 3, ground := Go.Ground.data }, { on := 3, ground := Go.Ground.chain }], guard := none }
def r60p5 (ps0 : String) : Oper := { dst := some 30, op := Go.Op.fieldAddr 111 (Go.Operand.tmp 1) 8, type := 0, pos := ps0, after := #[], guard := none }
def r60p6 (ps0 : String) : Oper := { dst := some 31, op := Go.Op.load 43 (Go.Operand.tmp 30), type := 43, pos := ps0, after := #[{ on := 5, ground := Go.Ground.data }], guard := none }
def r60p7 (ps0 : String) : Oper := { dst := some 32, op := Go.Op.call { callee := Go.Callee.value (Go.Operand.func 34), args := #[Go.Operand.tmp 31], argTypes := #[43] }, type := 22, pos := ps0, after := #[{ on := 6, ground := Go.Ground.data }, { on := 4, ground := Go.Ground.chain }], guard := none }
def r60p8 (ps0 : String) : Oper := { dst := some 33, op := Go.Op.call { callee := Go.Callee.builtin Go.Builtin.append, args := #[Go.Operand.tmp 29, Go.Operand.tmp 32], argTypes := #[22, 22] }, type := 22, pos := ps0, after := #[{ on := 4, ground := Go.Ground.data }, { on := 7, ground := Go.Ground.data }, { on := 7, ground := Go.Ground.chain }], guard := none }
def r60p9 (ps0 : String) : Oper := { dst := some 3, op := Go.Op.assign (Go.Operand.tmp 33), type := 22, pos := ps0, after := #[{ on := 8, ground := Go.Ground.data }, { on := 8, ground := Go.Ground.chain }, { on := 0, ground := Go.Ground.phase }, { on := 1, ground := Go.Ground.phase }, { on := 2, ground := Go.Ground.phase }, { on := 3, ground := Go.Ground.phase }, { on := 4, ground := Go.Ground.phase }, { on := 5, ground := Go.Ground.phase }, { on := 6, ground := Go.Ground.phase }, { on := 7, ground := Go.Ground.phase }, { on := 8, ground := Go.Ground.phase }], guard := none }
def r60ops (ps0 : String) : List Oper := [r60p0 ps0, r60p1 ps0, r60p2 ps0, r60p3 ps0, r60p4 ps0, r60p5 ps0, r60p6 ps0, r60p7 ps0, r60p8 ps0, r60p9 ps0]
def r60A (B : Nat) (W0 wd : World) (pre : List Nat) (X : Nat) (e : LE) (v s : Value) : List (Fk 5 B) := [Fk.any, Fk.is (.pointer (some ⟨X, 0, none⟩)), Fk.any, Fk.own W0 nilS pre, Fk.any, Fk.any, Fk.any, Fk.any, Fk.any, Fk.any, Fk.any, Fk.any, Fk.any, Fk.any, Fk.any, Fk.any, Fk.any, Fk.any, Fk.any, Fk.any, Fk.any, Fk.any, Fk.any, Fk.any, Fk.any, Fk.any, Fk.any, Fk.any, Fk.any, Fk.any, Fk.any, Fk.any, Fk.any, Fk.any, Fk.any, Fk.any, Fk.any, Fk.any, Fk.any, Fk.any, Fk.any, Fk.any, Fk.any, Fk.any, Fk.any, Fk.any, Fk.any, Fk.any, Fk.any, Fk.any, Fk.any, Fk.any, Fk.any, Fk.any, Fk.any, Fk.any]
def r60Z (B : Nat) (W0 wd : World) (pre : List Nat) (X : Nat) (e : LE) (v s : Value) : List (Fk 5 B) := [Fk.any, Fk.any, Fk.any, Fk.own W0 nilS (pre ++ (encVers e.vers) ++ (encSrcs e.srcs)), Fk.any, Fk.any, Fk.any, Fk.any, Fk.any, Fk.any, Fk.any, Fk.any, Fk.any, Fk.any, Fk.any, Fk.any, Fk.any, Fk.any, Fk.any, Fk.any, Fk.any, Fk.any, Fk.any, Fk.any, Fk.any, Fk.own W0 nilS pre, Fk.is (.pointer (some ⟨X, 31, none⟩)), Fk.is v, Fk.own W0 nilS (encVers e.vers), Fk.own W0 nilS (pre ++ (encVers e.vers)), Fk.is (.pointer (some ⟨X, 32, none⟩)), Fk.is s, Fk.own W0 nilS (encSrcs e.srcs), Fk.own W0 nilS (pre ++ (encVers e.vers) ++ (encSrcs e.srcs)), Fk.any, Fk.any, Fk.any, Fk.any, Fk.any, Fk.any, Fk.any, Fk.any, Fk.any, Fk.any, Fk.any, Fk.any, Fk.any, Fk.any, Fk.any, Fk.any, Fk.any, Fk.any, Fk.any, Fk.any, Fk.any, Fk.any]
def r60J (B : Nat) (W0 wd : World) (pre : List Nat) (X : Nat) (e : LE) (v s : Value) (w : World) : Prop := ((B ≤ w.heap.size ∧ Below B wd w) ∧ w.heap[X]? = some (.cells (lecells e v s).toArray 111 (0, 0))) ∧ (W0.grownBy w none ∧ W0.heap.size ≤ B)
theorem r60_reg (ps0 : String) : linB (r60ops ps0).toArray 56 [true, true, true, true, false, true, true, true, false, true] [false, false, false, true, false, false, false, false, false, false, false, false, false, false, false, false, false, false, false, false, false, false, false, false, false, false, false, false, false, false, false, false, false, false, false, false, false, false, false, false, false, false, false, false, false, false, false, false, false, false, false, false, false, false, false, false] [false, false, false, true, false, false, false, false, false, false, false, false, false, false, false, false, false, false, false, false, false, false, false, false, false, true, false, false, true, true, false, false, true, true, false, false, false, false, false, false, false, false, false, false, false, false, false, false, false, false, false, false, false, false, false, false] [3] = true := by kernel_rfl
theorem r60_m (ps0 : String) : dstsB (r60ops ps0) 56 = [false, false, false, true, false, false, false, false, false, false, false, false, false, false, false, false, false, false, false, false, false, false, false, false, false, true, true, true, true, true, true, true, true, true, false, false, false, false, false, false, false, false, false, false, false, false, false, false, false, false, false, false, false, false, false, false] := by kernel_rfl
set_option maxRecDepth 100000 in
theorem r60_o0 (ps0 : String) (B : Nat) (W0 wd : World) (pre : List Nat) (X : Nat) (e : LE) (v s : Value) (hv : Sl wd 3 v e.vers.length (e.vers.flatMap vercells) ∧ Lo v B) (hs : Sl wd 2 s e.srcs.length (e.srcs.flatMap srccells) ∧ Lo s B) (hvw : ∀ x ∈ e.vers, x.wf) (hsw : ∀ x ∈ e.srcs, x.wf) (hn : e.vers.length ≤ 1000 ∧ e.srcs.length ≤ 1000) (hl0 : (pre).length + (encVers e.vers).length ≤ 1099511627776) (hl1 : (pre ++ (encVers e.vers)).length + (encSrcs e.srcs).length ≤ 1099511627776) : ObL Try.prog (r60ops ps0).toArray 56 (fun t => (r60A B W0 wd pre X e v s).getD t Fk.any) (fun t => (r60Z B W0 wd pre X e v s).getD t Fk.any) (r60J B W0 wd pre X e v s) true 0 (r60p0 ps0) := lo_move 3 25 false (.inl rfl) rfl rfl (by decide) (by kernel_rfl) (fun _ _ h => h)
set_option maxRecDepth 100000 in
theorem r60_o1 (ps0 : String) (B : Nat) (W0 wd : World) (pre : List Nat) (X : Nat) (e : LE) (v s : Value) (hv : Sl wd 3 v e.vers.length (e.vers.flatMap vercells) ∧ Lo v B) (hs : Sl wd 2 s e.srcs.length (e.srcs.flatMap srccells) ∧ Lo s B) (hvw : ∀ x ∈ e.vers, x.wf) (hsw : ∀ x ∈ e.srcs, x.wf) (hn : e.vers.length ≤ 1000 ∧ e.srcs.length ≤ 1000) (hl0 : (pre).length + (encVers e.vers).length ≤ 1099511627776) (hl1 : (pre ++ (encVers e.vers)).length + (encSrcs e.srcs).length ≤ 1099511627776) : ObL Try.prog (r60ops ps0).toArray 56 (fun t => (r60A B W0 wd pre X e v s).getD t Fk.any) (fun t => (r60Z B W0 wd pre X e v s).getD t Fk.any) (r60J B W0 wd pre X e v s) true 1 (r60p1 ps0) := lo_field rfl rfl rfl ⟨by decide, false, by kernel_rfl, fun _ _ h => h⟩ (fun w => by go_simp) (fun _ => rfl)
set_option maxRecDepth 100000 in
theorem r60_o2 (ps0 : String) (B : Nat) (W0 wd : World) (pre : List Nat) (X : Nat) (e : LE) (v s : Value) (hv : Sl wd 3 v e.vers.length (e.vers.flatMap vercells) ∧ Lo v B) (hs : Sl wd 2 s e.srcs.length (e.srcs.flatMap srccells) ∧ Lo s B) (hvw : ∀ x ∈ e.vers, x.wf) (hsw : ∀ x ∈ e.srcs, x.wf) (hn : e.vers.length ≤ 1000 ∧ e.srcs.length ≤ 1000) (hl0 : (pre).length + (encVers e.vers).length ≤ 1099511627776) (hl1 : (pre ++ (encVers e.vers)).length + (encSrcs e.srcs).length ≤ 1099511627776) : ObL Try.prog (r60ops ps0).toArray 56 (fun t => (r60A B W0 wd pre X e v s).getD t Fk.any) (fun t => (r60Z B W0 wd pre X e v s).getD t Fk.any) (r60J B W0 wd pre X e v s) true 2 (r60p2 ps0) := lo_load rfl rfl rfl ⟨by decide, true, by kernel_rfl, fun _ _ h => h⟩ (tyVersS hv.1) (fun w hJ => range_row hJ.1.2 31 [v] rfl) (fun _ _ => rfl)
set_option maxRecDepth 100000 in
theorem r60_o3 (ps0 : String) (B : Nat) (W0 wd : World) (pre : List Nat) (X : Nat) (e : LE) (v s : Value) (hv : Sl wd 3 v e.vers.length (e.vers.flatMap vercells) ∧ Lo v B) (hs : Sl wd 2 s e.srcs.length (e.srcs.flatMap srccells) ∧ Lo s B) (hvw : ∀ x ∈ e.vers, x.wf) (hsw : ∀ x ∈ e.srcs, x.wf) (hn : e.vers.length ≤ 1000 ∧ e.srcs.length ≤ 1000) (hl0 : (pre).length + (encVers e.vers).length ≤ 1099511627776) (hl1 : (pre ++ (encVers e.vers)).length + (encSrcs e.srcs).length ≤ 1099511627776) : ObL Try.prog (r60ops ps0).toArray 56 (fun t => (r60A B W0 wd pre X e v s).getD t Fk.any) (fun t => (r60Z B W0 wd pre X e v s).getD t Fk.any) (r60J B W0 wd pre X e v s) true 3 (r60p3 ps0) := lo_fresh (w0 := W0) (ys := encVers e.vers) rfl rfl rfl (enter_of Try.func33 (by kernel_rfl) rfl) (fun a w hJ hl => ⟨#[v], by have e := OpdV.eval (i := 3) (o := (r60p3 ps0)) (show OpdV (r60ops ps0).toArray 56 (fun t => (r60A B W0 wd pre X e v s).getD t Fk.any) (fun t => (r60Z B W0 wd pre X e v s).getD t Fk.any) 3 (.tmp 27) (v) from ⟨by decide, true, by kernel_rfl, fun _ _ h => h⟩) (by simp [r60p3, Op.operands, Call.operands]) hl; simp only [List.map_toArray, List.map_cons, List.map_nil, e], refVers_walk v e.vers w (hv.1.below hJ.1.1.2 hv.2) (hv.2.mono hJ.1.1.1) hvw (by omega)⟩) (fun w hJ => ⟨hJ.2.1, hJ.1.1.1⟩) (fun _ _ h => h)
set_option maxRecDepth 100000 in
theorem r60_o4 (ps0 : String) (B : Nat) (W0 wd : World) (pre : List Nat) (X : Nat) (e : LE) (v s : Value) (hv : Sl wd 3 v e.vers.length (e.vers.flatMap vercells) ∧ Lo v B) (hs : Sl wd 2 s e.srcs.length (e.srcs.flatMap srccells) ∧ Lo s B) (hvw : ∀ x ∈ e.vers, x.wf) (hsw : ∀ x ∈ e.srcs, x.wf) (hn : e.vers.length ≤ 1000 ∧ e.srcs.length ≤ 1000) (hl0 : (pre).length + (encVers e.vers).length ≤ 1099511627776) (hl1 : (pre ++ (encVers e.vers)).length + (encSrcs e.srcs).length ≤ 1099511627776) : ObL Try.prog (r60ops ps0).toArray 56 (fun t => (r60A B W0 wd pre X e v s).getD t Fk.any) (fun t => (r60Z B W0 wd pre X e v s).getD t Fk.any) (r60J B W0 wd pre X e v s) false 4 (r60p4 ps0) := lo_app (bs := true) (bx := true) (w0 := W0) (v0 := nilS) (xs := pre) (ys := encVers e.vers) rfl rfl rfl rfl rfl (by decide) (by decide) (by kernel_rfl) (by kernel_rfl) (fun _ _ h => h) (fun _ _ _ h => Sl.of_own h.1) hl0 (fun w hJ => hJ.1.1.1) (fun _ _ h => h)
set_option maxRecDepth 100000 in
theorem r60_o5 (ps0 : String) (B : Nat) (W0 wd : World) (pre : List Nat) (X : Nat) (e : LE) (v s : Value) (hv : Sl wd 3 v e.vers.length (e.vers.flatMap vercells) ∧ Lo v B) (hs : Sl wd 2 s e.srcs.length (e.srcs.flatMap srccells) ∧ Lo s B) (hvw : ∀ x ∈ e.vers, x.wf) (hsw : ∀ x ∈ e.srcs, x.wf) (hn : e.vers.length ≤ 1000 ∧ e.srcs.length ≤ 1000) (hl0 : (pre).length + (encVers e.vers).length ≤ 1099511627776) (hl1 : (pre ++ (encVers e.vers)).length + (encSrcs e.srcs).length ≤ 1099511627776) : ObL Try.prog (r60ops ps0).toArray 56 (fun t => (r60A B W0 wd pre X e v s).getD t Fk.any) (fun t => (r60Z B W0 wd pre X e v s).getD t Fk.any) (r60J B W0 wd pre X e v s) true 5 (r60p5 ps0) := lo_field rfl rfl rfl ⟨by decide, false, by kernel_rfl, fun _ _ h => h⟩ (fun w => by go_simp) (fun _ => rfl)
set_option maxRecDepth 100000 in
theorem r60_o6 (ps0 : String) (B : Nat) (W0 wd : World) (pre : List Nat) (X : Nat) (e : LE) (v s : Value) (hv : Sl wd 3 v e.vers.length (e.vers.flatMap vercells) ∧ Lo v B) (hs : Sl wd 2 s e.srcs.length (e.srcs.flatMap srccells) ∧ Lo s B) (hvw : ∀ x ∈ e.vers, x.wf) (hsw : ∀ x ∈ e.srcs, x.wf) (hn : e.vers.length ≤ 1000 ∧ e.srcs.length ≤ 1000) (hl0 : (pre).length + (encVers e.vers).length ≤ 1099511627776) (hl1 : (pre ++ (encVers e.vers)).length + (encSrcs e.srcs).length ≤ 1099511627776) : ObL Try.prog (r60ops ps0).toArray 56 (fun t => (r60A B W0 wd pre X e v s).getD t Fk.any) (fun t => (r60Z B W0 wd pre X e v s).getD t Fk.any) (r60J B W0 wd pre X e v s) true 6 (r60p6 ps0) := lo_load rfl rfl rfl ⟨by decide, true, by kernel_rfl, fun _ _ h => h⟩ (tySrcsS hs.1) (fun w hJ => range_row hJ.1.2 32 [s] rfl) (fun _ _ => rfl)
set_option maxRecDepth 100000 in
theorem r60_o7 (ps0 : String) (B : Nat) (W0 wd : World) (pre : List Nat) (X : Nat) (e : LE) (v s : Value) (hv : Sl wd 3 v e.vers.length (e.vers.flatMap vercells) ∧ Lo v B) (hs : Sl wd 2 s e.srcs.length (e.srcs.flatMap srccells) ∧ Lo s B) (hvw : ∀ x ∈ e.vers, x.wf) (hsw : ∀ x ∈ e.srcs, x.wf) (hn : e.vers.length ≤ 1000 ∧ e.srcs.length ≤ 1000) (hl0 : (pre).length + (encVers e.vers).length ≤ 1099511627776) (hl1 : (pre ++ (encVers e.vers)).length + (encSrcs e.srcs).length ≤ 1099511627776) : ObL Try.prog (r60ops ps0).toArray 56 (fun t => (r60A B W0 wd pre X e v s).getD t Fk.any) (fun t => (r60Z B W0 wd pre X e v s).getD t Fk.any) (r60J B W0 wd pre X e v s) true 7 (r60p7 ps0) := lo_fresh (w0 := W0) (ys := encSrcs e.srcs) rfl rfl rfl (enter_of Try.func34 (by kernel_rfl) rfl) (fun a w hJ hl => ⟨#[s], by have e := OpdV.eval (i := 7) (o := (r60p7 ps0)) (show OpdV (r60ops ps0).toArray 56 (fun t => (r60A B W0 wd pre X e v s).getD t Fk.any) (fun t => (r60Z B W0 wd pre X e v s).getD t Fk.any) 7 (.tmp 31) (s) from ⟨by decide, true, by kernel_rfl, fun _ _ h => h⟩) (by simp [r60p7, Op.operands, Call.operands]) hl; simp only [List.map_toArray, List.map_cons, List.map_nil, e], refSrcs_walk s e.srcs w (hs.1.below hJ.1.1.2 hs.2) (hs.2.mono hJ.1.1.1) hsw (by omega)⟩) (fun w hJ => ⟨hJ.2.1, hJ.1.1.1⟩) (fun _ _ h => h)
set_option maxRecDepth 100000 in
theorem r60_o8 (ps0 : String) (B : Nat) (W0 wd : World) (pre : List Nat) (X : Nat) (e : LE) (v s : Value) (hv : Sl wd 3 v e.vers.length (e.vers.flatMap vercells) ∧ Lo v B) (hs : Sl wd 2 s e.srcs.length (e.srcs.flatMap srccells) ∧ Lo s B) (hvw : ∀ x ∈ e.vers, x.wf) (hsw : ∀ x ∈ e.srcs, x.wf) (hn : e.vers.length ≤ 1000 ∧ e.srcs.length ≤ 1000) (hl0 : (pre).length + (encVers e.vers).length ≤ 1099511627776) (hl1 : (pre ++ (encVers e.vers)).length + (encSrcs e.srcs).length ≤ 1099511627776) : ObL Try.prog (r60ops ps0).toArray 56 (fun t => (r60A B W0 wd pre X e v s).getD t Fk.any) (fun t => (r60Z B W0 wd pre X e v s).getD t Fk.any) (r60J B W0 wd pre X e v s) false 8 (r60p8 ps0) := lo_app (bs := true) (bx := true) (w0 := W0) (v0 := nilS) (xs := pre ++ (encVers e.vers)) (ys := encSrcs e.srcs) rfl rfl rfl rfl rfl (by decide) (by decide) (by kernel_rfl) (by kernel_rfl) (fun _ _ h => h) (fun _ _ _ h => Sl.of_own h.1) hl1 (fun w hJ => hJ.1.1.1) (fun _ _ h => h)
set_option maxRecDepth 100000 in
theorem r60_o9 (ps0 : String) (B : Nat) (W0 wd : World) (pre : List Nat) (X : Nat) (e : LE) (v s : Value) (hv : Sl wd 3 v e.vers.length (e.vers.flatMap vercells) ∧ Lo v B) (hs : Sl wd 2 s e.srcs.length (e.srcs.flatMap srccells) ∧ Lo s B) (hvw : ∀ x ∈ e.vers, x.wf) (hsw : ∀ x ∈ e.srcs, x.wf) (hn : e.vers.length ≤ 1000 ∧ e.srcs.length ≤ 1000) (hl0 : (pre).length + (encVers e.vers).length ≤ 1099511627776) (hl1 : (pre ++ (encVers e.vers)).length + (encSrcs e.srcs).length ≤ 1099511627776) : ObL Try.prog (r60ops ps0).toArray 56 (fun t => (r60A B W0 wd pre X e v s).getD t Fk.any) (fun t => (r60Z B W0 wd pre X e v s).getD t Fk.any) (r60J B W0 wd pre X e v s) true 9 (r60p9 ps0) := lo_move 33 3 true (.inr rfl) rfl rfl (by decide) (by kernel_rfl) (fun _ _ h => h)
set_option maxRecDepth 100000 in
theorem r60_ob (ps0 : String) (B : Nat) (W0 wd : World) (pre : List Nat) (X : Nat) (e : LE) (v s : Value) (hv : Sl wd 3 v e.vers.length (e.vers.flatMap vercells) ∧ Lo v B) (hs : Sl wd 2 s e.srcs.length (e.srcs.flatMap srccells) ∧ Lo s B) (hvw : ∀ x ∈ e.vers, x.wf) (hsw : ∀ x ∈ e.srcs, x.wf) (hn : e.vers.length ≤ 1000 ∧ e.srcs.length ≤ 1000) (hl0 : (pre).length + (encVers e.vers).length ≤ 1099511627776) (hl1 : (pre ++ (encVers e.vers)).length + (encSrcs e.srcs).length ≤ 1099511627776) : ObLAll Try.prog (r60ops ps0).toArray 56 (fun t => (r60A B W0 wd pre X e v s).getD t Fk.any) (fun t => (r60Z B W0 wd pre X e v s).getD t Fk.any) (r60J B W0 wd pre X e v s) 0 [true, true, true, true, false, true, true, true, false, true] (r60ops ps0) := ⟨r60_o0 ps0 B W0 wd pre X e v s hv hs hvw hsw hn hl0 hl1, r60_o1 ps0 B W0 wd pre X e v s hv hs hvw hsw hn hl0 hl1, r60_o2 ps0 B W0 wd pre X e v s hv hs hvw hsw hn hl0 hl1, r60_o3 ps0 B W0 wd pre X e v s hv hs hvw hsw hn hl0 hl1, r60_o4 ps0 B W0 wd pre X e v s hv hs hvw hsw hn hl0 hl1, r60_o5 ps0 B W0 wd pre X e v s hv hs hvw hsw hn hl0 hl1, r60_o6 ps0 B W0 wd pre X e v s hv hs hvw hsw hn hl0 hl1, r60_o7 ps0 B W0 wd pre X e v s hv hs hvw hsw hn hl0 hl1, r60_o8 ps0 B W0 wd pre X e v s hv hs hvw hsw hn hl0 hl1, r60_o9 ps0 B W0 wd pre X e v s hv hs hvw hsw hn hl0 hl1, trivial⟩

set_option maxRecDepth 100000 in
set_option maxHeartbeats 4000000 in
theorem refEntry_walk (v s : Value) (e : LE) (w : World) (hv : Sl w 3 v e.vers.length (e.vers.flatMap vercells) ∧ Lo v w.heap.size) (hs : Sl w 2 s e.srcs.length (e.srcs.flatMap srccells) ∧ Lo s w.heap.size) (hw : e.wf) (hsm : e.small) :
    Calls Try.prog 60 #[leval e v s] w fun en w' => ∃ u, en = .returned u ∧ Own w' 5 1 u (encLE e).length (bv (encLE e)) ∧ Fresh w w' u := by
  have hn := LE.ns_wf hw
  have hel := flat_enc_len [e.kind, e.day, e.plan, e.step] hn
  have hC65 := lecells_len e v s hw.root.1
  unfold leval
  have HV := hid hv
  have HS := hid hs
  have HW := hid hw
  have HSM := hid hsm
  have HN := hid hn
  have HE := hid (show ([e.kind, e.day, e.plan, e.step].flatMap enc).length ≤ 40 from hel)
  generalize hC : lecells e v s = C at *
  have HC := hid hC
  clear hv hs hw hsm hn hel hC
  by_cases h1 : e.kind = 1
  · have HK := hid h1
    clear h1
    go_enter Try.func60, Try.ntmps60
    have ga := World.grownBy_alloc w (.cells C.toArray 111) none
    have hb0 := heap_at (w := w) (o := .cells C.toArray 111) rfl
    have c0 : (w.alloc (.cells C.toArray 111)).cell? ⟨w.heap.size, 0, none⟩ = some (.int .i64 e.kind) := by rw [cell_of_row _ _ _ _ _ _ hb0, ← HC.out]; rfl
    have c1 : (w.alloc (.cells C.toArray 111)).cell? ⟨w.heap.size, 1, none⟩ = some (.int .i64 e.day) := by rw [cell_of_row _ _ _ _ _ _ hb0, ← HC.out]; rfl
    have c2 : (w.alloc (.cells C.toArray 111)).cell? ⟨w.heap.size, 2, none⟩ = some (.int .i64 e.plan) := by rw [cell_of_row _ _ _ _ _ _ hb0, ← HC.out]; rfl
    have c3 : (w.alloc (.cells C.toArray 111)).cell? ⟨w.heap.size, 3, none⟩ = some (.int .i64 e.step) := by rw [cell_of_row _ _ _ _ _ _ hb0, ← HC.out]; rfl
    have GA := hid ga
    have HB0 := hid hb0
    clear ga hb0
    go_wp2_with fail
    refine (refInts_walk _ [e.kind, e.day, e.plan, e.step] ((w.alloc (.cells C.toArray 111)).alloc (.cells ([e.kind, e.day, e.plan, e.step].map (Value.int .i64)).toArray 3)) (sl_blk (B := w.heap.size + 1) (xs := [e.kind, e.day, e.plan, e.step].map (Value.int .i64)) (heap_at (w := w.alloc (.cells C.toArray 111)) (o := .cells ([e.kind, e.day, e.plan, e.step].map (Value.int .i64)).toArray 3) (n := w.heap.size + 1) (by simp)) ⟨rfl, by simp⟩) (fun b hb => by simp [Value.ownBlock] at hb; subst hb; simp) HN.out (by simp)).mono ?_
    rintro en w2 ⟨v2, rfl, hown2, hf2⟩
    have g2 := grown_trans (World.grownBy_alloc (w.alloc (.cells C.toArray 111)) (.cells ([e.kind, e.day, e.plan, e.step].map (Value.int .i64)).toArray 3) none) (Step.none hf2)
    have B2 := hid (row_of g2 HB0.out (by simp))
    have O2 := hid hown2
    have F2 := hid (show Fresh w w2 v2 from Step.grown GA.out (Step.grown (World.grownBy_alloc (w.alloc (.cells C.toArray 111)) _ none) hf2))
    clear c0 c1 c2 c3 hown2 hf2 g2
    have c0 : w2.cell? ⟨w.heap.size, 0, none⟩ = some (.int .i64 e.kind) := by rw [cell_of_row _ _ _ _ _ _ B2.out, ← HC.out]; rfl
    have c1 : w2.cell? ⟨w.heap.size, 1, none⟩ = some (.int .i64 e.day) := by rw [cell_of_row _ _ _ _ _ _ B2.out, ← HC.out]; rfl
    have c2 : w2.cell? ⟨w.heap.size, 2, none⟩ = some (.int .i64 e.plan) := by rw [cell_of_row _ _ _ _ _ _ B2.out, ← HC.out]; rfl
    have c3 : w2.cell? ⟨w.heap.size, 3, none⟩ = some (.int .i64 e.step) := by rw [cell_of_row _ _ _ _ _ _ B2.out, ← HC.out]; rfl
    have b1 : (e.kind == 1) = true := by rw [HK.out]; rfl
    have hr : w2.rangeAt w.heap.size 4 (reqcells e.req) := range_row B2.out 4 _ (by rw [← HC.out]; exact le_req e v s)
    have HRG := hid hr
    clear hr
    go_wp2_with (first | (refine wpList_loadAt rfl 105 (.tmp 19) rfl rfl (tyReq e.req) HRG.out ?_) | fail)
    refine (refRequest_walk e.req w2 HW.out.req (by have := HSM.out.req; omega)).mono ?_
    rintro en w3 ⟨v3, rfl, hown3, hf3⟩
    have O3 := hid (And.intro hown3 (And.intro (O2.out.kn (Step.none hf3)) (Step.none hf3)))
    have B3 := hid (row_of (Step.none hf3) B2.out (by simp))
    have HL := hid (encReq_len e.req HW.out.req HSM.out.req)
    clear hown3 hf3 c0 c1 c2 c3
    go_wp2_with (at_builtin; go_must (refine wpList_app bytesT rfl _ _ rfl _ _ _ rfl O3.out.2.1 _ _ _ rfl (Sl.of_own O3.out.1) bv_ones (by have := HE.out; have := HL.out; omega) ?_; intro v5 w5 hown5 hst5))
    go_ret
    rw [← List.length_append, ← bv_append] at hown5
    exact ⟨_, rfl, by rw [encLE_of (show encLEt e = encReq e.req by unfold encLEt; rw [if_pos HK.out])]; exact hown5, F2.out.trans (Step.grown O3.out.2.2 hst5)⟩
  by_cases h2 : e.kind = 2
  · have HK := hid h2
    clear h2
    go_enter Try.func60, Try.ntmps60
    have ga := World.grownBy_alloc w (.cells C.toArray 111) none
    have hb0 := heap_at (w := w) (o := .cells C.toArray 111) rfl
    have c0 : (w.alloc (.cells C.toArray 111)).cell? ⟨w.heap.size, 0, none⟩ = some (.int .i64 e.kind) := by rw [cell_of_row _ _ _ _ _ _ hb0, ← HC.out]; rfl
    have c1 : (w.alloc (.cells C.toArray 111)).cell? ⟨w.heap.size, 1, none⟩ = some (.int .i64 e.day) := by rw [cell_of_row _ _ _ _ _ _ hb0, ← HC.out]; rfl
    have c2 : (w.alloc (.cells C.toArray 111)).cell? ⟨w.heap.size, 2, none⟩ = some (.int .i64 e.plan) := by rw [cell_of_row _ _ _ _ _ _ hb0, ← HC.out]; rfl
    have c3 : (w.alloc (.cells C.toArray 111)).cell? ⟨w.heap.size, 3, none⟩ = some (.int .i64 e.step) := by rw [cell_of_row _ _ _ _ _ _ hb0, ← HC.out]; rfl
    have GA := hid ga
    have HB0 := hid hb0
    clear ga hb0
    go_wp2_with fail
    refine (refInts_walk _ [e.kind, e.day, e.plan, e.step] ((w.alloc (.cells C.toArray 111)).alloc (.cells ([e.kind, e.day, e.plan, e.step].map (Value.int .i64)).toArray 3)) (sl_blk (B := w.heap.size + 1) (xs := [e.kind, e.day, e.plan, e.step].map (Value.int .i64)) (heap_at (w := w.alloc (.cells C.toArray 111)) (o := .cells ([e.kind, e.day, e.plan, e.step].map (Value.int .i64)).toArray 3) (n := w.heap.size + 1) (by simp)) ⟨rfl, by simp⟩) (fun b hb => by simp [Value.ownBlock] at hb; subst hb; simp) HN.out (by simp)).mono ?_
    rintro en w2 ⟨v2, rfl, hown2, hf2⟩
    have g2 := grown_trans (World.grownBy_alloc (w.alloc (.cells C.toArray 111)) (.cells ([e.kind, e.day, e.plan, e.step].map (Value.int .i64)).toArray 3) none) (Step.none hf2)
    have B2 := hid (row_of g2 HB0.out (by simp))
    have O2 := hid hown2
    have F2 := hid (show Fresh w w2 v2 from Step.grown GA.out (Step.grown (World.grownBy_alloc (w.alloc (.cells C.toArray 111)) _ none) hf2))
    clear c0 c1 c2 c3 hown2 hf2 g2
    have c0 : w2.cell? ⟨w.heap.size, 0, none⟩ = some (.int .i64 e.kind) := by rw [cell_of_row _ _ _ _ _ _ B2.out, ← HC.out]; rfl
    have c1 : w2.cell? ⟨w.heap.size, 1, none⟩ = some (.int .i64 e.day) := by rw [cell_of_row _ _ _ _ _ _ B2.out, ← HC.out]; rfl
    have c2 : w2.cell? ⟨w.heap.size, 2, none⟩ = some (.int .i64 e.plan) := by rw [cell_of_row _ _ _ _ _ _ B2.out, ← HC.out]; rfl
    have c3 : w2.cell? ⟨w.heap.size, 3, none⟩ = some (.int .i64 e.step) := by rw [cell_of_row _ _ _ _ _ _ B2.out, ← HC.out]; rfl
    have b1 : (e.kind == 1) = false := by rw [HK.out]; rfl
    have b2 : (e.kind == 2) = true := by rw [HK.out]; rfl
    have HVL := hid (encVers_len HW.out.vers (by have := HSM.out.vers; omega))
    have HSL := hid (encSrcs_len HW.out.srcs (by have := HSM.out.srcs; omega))
    have hn : e.vers.length ≤ 1000 ∧ e.srcs.length ≤ 1000 := ⟨HSM.out.vers, HSM.out.srcs⟩
    have hl0 : (([e.kind, e.day, e.plan, e.step].flatMap enc)).length + (encVers e.vers).length ≤ 1099511627776 := by have := HE.out; have := HVL.out; have := HSL.out; first | omega | (simp only [List.length_append]; omega)
    have hl1 : (([e.kind, e.day, e.plan, e.step].flatMap enc) ++ (encVers e.vers)).length + (encSrcs e.srcs).length ≤ 1099511627776 := by have := HE.out; have := HVL.out; have := HSL.out; first | omega | (simp only [List.length_append]; omega)
    have hi2 : Hi v2 (w.heap.size + 1) := fun k hk => by
      have h9 := F2.out.lo k hk
      have h8 : k ≠ w.heap.size := fun e => Own.ne O2.out B2.out (by decide) (by rw [hk, e])
      omega
    have g2 := Step.none F2.out
    have hv2 : Sl w2 3 v e.vers.length (e.vers.flatMap vercells) ∧ Lo v (w.heap.size + 1) := ⟨HV.out.1.kn g2, HV.out.2.mono (Nat.le_succ _)⟩
    have hs2 : Sl w2 2 s e.srcs.length (e.srcs.flatMap srccells) ∧ Lo s (w.heap.size + 1) := ⟨HS.out.1.kn g2, HS.out.2.mono (Nat.le_succ _)⟩
    have hvw := HW.out.vers
    have hsw := HW.out.srcs
    go_wp2_with fail
    refine region_linl mixed 5 (w.heap.size + 1) 56 _ _ _ _ (r60A (w.heap.size + 1) w w2 ([e.kind, e.day, e.plan, e.step].flatMap enc) w.heap.size e v s) (r60Z (w.heap.size + 1) w w2 ([e.kind, e.day, e.plan, e.step].flatMap enc) w.heap.size e v s) (r60J (w.heap.size + 1) w w2 ([e.kind, e.day, e.plan, e.step].flatMap enc) w.heap.size e v s) (fun w w' hu ⟨⟨⟨h1, h2⟩, h3⟩, h4, h5⟩ => ⟨⟨⟨Nat.le_trans h1 hu.size, h2.trans (hu.below h1)⟩, hu.row (by decide) h3⟩, hu.keep0 h4 h5, h5⟩) ?_ ?_ (r60_reg _) _ (r60_m _) rfl rfl rfl rfl ?_ (r60_ob _ (w.heap.size + 1) w w2 ([e.kind, e.day, e.plan, e.step].flatMap enc) w.heap.size e v s hv2 hs2 hvw hsw hn hl0 hl1) ?_
    · exact ⟨⟨⟨by have := (Array.getElem?_eq_some_iff.1 B2.out).1; omega, Below.refl _ _⟩, by rw [HC.out]; exact B2.out⟩, g2, Nat.le_succ _⟩
    · rfl
    · exact (fun t ht => InitF.at (L := r60A (w.heap.size + 1) w w2 ([e.kind, e.day, e.plan, e.step].flatMap enc) w.heap.size e v s) (by exact ⟨trivial, rfl, trivial, ⟨O2.out, F2.out, hi2⟩, trivial, trivial, trivial, trivial, trivial, trivial, trivial, trivial, trivial, trivial, trivial, trivial, trivial, trivial, trivial, trivial, trivial, trivial, trivial, trivial, trivial, trivial, trivial, trivial, trivial, trivial, trivial, trivial, trivial, trivial, trivial, trivial, trivial, trivial, trivial, trivial, trivial, trivial, trivial, trivial, trivial, trivial, trivial, trivial, trivial, trivial, trivial, trivial, trivial, trivial, trivial, trivial, trivial⟩) t ht ht)
    intro y w5 hJ5 hk5
    have hf : (Fk.own (E := 5) (B := w.heap.size + 1) w nilS (([e.kind, e.day, e.plan, e.step].flatMap enc) ++ (encVers e.vers) ++ (encSrcs e.srcs))).on w5 (y 3) := hk5 3 (by simp)
    obtain ⟨f1, f2, f3⟩ := hf
    have F1 := hid f1
    have F3 := hid f2
    simp only [frameOf, Bool.false_eq_true, if_false, if_true]
    generalize y 3 = y3 at *
    clear f1 f2 f3 hk5 hJ5 hi2 g2 hv2 hs2 hvw hsw
    go_wp2
    go_ret
    exact ⟨_, rfl, by rw [encLE_of (show encLEt e = encVers e.vers ++ encSrcs e.srcs by unfold encLEt; rw [if_neg h1, if_pos HK.out]), ← List.append_assoc]; exact F1.out, F3.out⟩
  by_cases h4 : e.kind = 4
  · have HK := hid h4
    clear h4
    go_enter Try.func60, Try.ntmps60
    have ga := World.grownBy_alloc w (.cells C.toArray 111) none
    have hb0 := heap_at (w := w) (o := .cells C.toArray 111) rfl
    have c0 : (w.alloc (.cells C.toArray 111)).cell? ⟨w.heap.size, 0, none⟩ = some (.int .i64 e.kind) := by rw [cell_of_row _ _ _ _ _ _ hb0, ← HC.out]; rfl
    have c1 : (w.alloc (.cells C.toArray 111)).cell? ⟨w.heap.size, 1, none⟩ = some (.int .i64 e.day) := by rw [cell_of_row _ _ _ _ _ _ hb0, ← HC.out]; rfl
    have c2 : (w.alloc (.cells C.toArray 111)).cell? ⟨w.heap.size, 2, none⟩ = some (.int .i64 e.plan) := by rw [cell_of_row _ _ _ _ _ _ hb0, ← HC.out]; rfl
    have c3 : (w.alloc (.cells C.toArray 111)).cell? ⟨w.heap.size, 3, none⟩ = some (.int .i64 e.step) := by rw [cell_of_row _ _ _ _ _ _ hb0, ← HC.out]; rfl
    have GA := hid ga
    have HB0 := hid hb0
    clear ga hb0
    go_wp2_with fail
    refine (refInts_walk _ [e.kind, e.day, e.plan, e.step] ((w.alloc (.cells C.toArray 111)).alloc (.cells ([e.kind, e.day, e.plan, e.step].map (Value.int .i64)).toArray 3)) (sl_blk (B := w.heap.size + 1) (xs := [e.kind, e.day, e.plan, e.step].map (Value.int .i64)) (heap_at (w := w.alloc (.cells C.toArray 111)) (o := .cells ([e.kind, e.day, e.plan, e.step].map (Value.int .i64)).toArray 3) (n := w.heap.size + 1) (by simp)) ⟨rfl, by simp⟩) (fun b hb => by simp [Value.ownBlock] at hb; subst hb; simp) HN.out (by simp)).mono ?_
    rintro en w2 ⟨v2, rfl, hown2, hf2⟩
    have g2 := grown_trans (World.grownBy_alloc (w.alloc (.cells C.toArray 111)) (.cells ([e.kind, e.day, e.plan, e.step].map (Value.int .i64)).toArray 3) none) (Step.none hf2)
    have B2 := hid (row_of g2 HB0.out (by simp))
    have O2 := hid hown2
    have F2 := hid (show Fresh w w2 v2 from Step.grown GA.out (Step.grown (World.grownBy_alloc (w.alloc (.cells C.toArray 111)) _ none) hf2))
    clear c0 c1 c2 c3 hown2 hf2 g2
    have c0 : w2.cell? ⟨w.heap.size, 0, none⟩ = some (.int .i64 e.kind) := by rw [cell_of_row _ _ _ _ _ _ B2.out, ← HC.out]; rfl
    have c1 : w2.cell? ⟨w.heap.size, 1, none⟩ = some (.int .i64 e.day) := by rw [cell_of_row _ _ _ _ _ _ B2.out, ← HC.out]; rfl
    have c2 : w2.cell? ⟨w.heap.size, 2, none⟩ = some (.int .i64 e.plan) := by rw [cell_of_row _ _ _ _ _ _ B2.out, ← HC.out]; rfl
    have c3 : w2.cell? ⟨w.heap.size, 3, none⟩ = some (.int .i64 e.step) := by rw [cell_of_row _ _ _ _ _ _ B2.out, ← HC.out]; rfl
    have b1 : (e.kind == 1) = false := by rw [HK.out]; rfl
    have b2 : (e.kind == 2) = false := by rw [HK.out]; rfl
    have b4 : (e.kind == 4) = true := by rw [HK.out]; rfl
    have hr : w2.rangeAt w.heap.size 33 (bv e.root) := range_row B2.out 33 _ (by rw [← HC.out]; exact le_root e v s)
    have HRG := hid hr
    clear hr
    go_wp2_with (first | (refine wpList_loadAt rfl 45 (.tmp 37) rfl rfl (tyDig e.root HW.out.root.1) HRG.out ?_) | fail)
    refine (refBytes_walk e.root HW.out.root.1 w2).mono ?_
    rintro en w3 ⟨v3, rfl, hown3, hf3⟩
    have O3 := hid (And.intro hown3 (And.intro (O2.out.kn (Step.none hf3)) (Step.none hf3)))
    have B3 := hid (row_of (Step.none hf3) B2.out (by simp))
    have HL := hid (Nat.le_of_eq HW.out.root.1)
    clear hown3 hf3 c0 c1 c2 c3
    go_wp2_with (at_builtin; go_must (refine wpList_app bytesT rfl _ _ rfl _ _ _ rfl O3.out.2.1 _ _ _ rfl (Sl.of_own O3.out.1) bv_ones (by have := HE.out; have := HL.out; omega) ?_; intro v5 w5 hown5 hst5))
    go_ret
    rw [← List.length_append, ← bv_append] at hown5
    exact ⟨_, rfl, by rw [encLE_of (show encLEt e = e.root by unfold encLEt; rw [if_neg h1, if_neg h2, if_pos HK.out])]; exact hown5, F2.out.trans (Step.grown O3.out.2.2 hst5)⟩
  by_cases h6 : e.kind = 6
  · have HK := hid h6
    clear h6
    go_enter Try.func60, Try.ntmps60
    have ga := World.grownBy_alloc w (.cells C.toArray 111) none
    have hb0 := heap_at (w := w) (o := .cells C.toArray 111) rfl
    have c0 : (w.alloc (.cells C.toArray 111)).cell? ⟨w.heap.size, 0, none⟩ = some (.int .i64 e.kind) := by rw [cell_of_row _ _ _ _ _ _ hb0, ← HC.out]; rfl
    have c1 : (w.alloc (.cells C.toArray 111)).cell? ⟨w.heap.size, 1, none⟩ = some (.int .i64 e.day) := by rw [cell_of_row _ _ _ _ _ _ hb0, ← HC.out]; rfl
    have c2 : (w.alloc (.cells C.toArray 111)).cell? ⟨w.heap.size, 2, none⟩ = some (.int .i64 e.plan) := by rw [cell_of_row _ _ _ _ _ _ hb0, ← HC.out]; rfl
    have c3 : (w.alloc (.cells C.toArray 111)).cell? ⟨w.heap.size, 3, none⟩ = some (.int .i64 e.step) := by rw [cell_of_row _ _ _ _ _ _ hb0, ← HC.out]; rfl
    have GA := hid ga
    have HB0 := hid hb0
    clear ga hb0
    go_wp2_with fail
    refine (refInts_walk _ [e.kind, e.day, e.plan, e.step] ((w.alloc (.cells C.toArray 111)).alloc (.cells ([e.kind, e.day, e.plan, e.step].map (Value.int .i64)).toArray 3)) (sl_blk (B := w.heap.size + 1) (xs := [e.kind, e.day, e.plan, e.step].map (Value.int .i64)) (heap_at (w := w.alloc (.cells C.toArray 111)) (o := .cells ([e.kind, e.day, e.plan, e.step].map (Value.int .i64)).toArray 3) (n := w.heap.size + 1) (by simp)) ⟨rfl, by simp⟩) (fun b hb => by simp [Value.ownBlock] at hb; subst hb; simp) HN.out (by simp)).mono ?_
    rintro en w2 ⟨v2, rfl, hown2, hf2⟩
    have g2 := grown_trans (World.grownBy_alloc (w.alloc (.cells C.toArray 111)) (.cells ([e.kind, e.day, e.plan, e.step].map (Value.int .i64)).toArray 3) none) (Step.none hf2)
    have B2 := hid (row_of g2 HB0.out (by simp))
    have O2 := hid hown2
    have F2 := hid (show Fresh w w2 v2 from Step.grown GA.out (Step.grown (World.grownBy_alloc (w.alloc (.cells C.toArray 111)) _ none) hf2))
    clear c0 c1 c2 c3 hown2 hf2 g2
    have c0 : w2.cell? ⟨w.heap.size, 0, none⟩ = some (.int .i64 e.kind) := by rw [cell_of_row _ _ _ _ _ _ B2.out, ← HC.out]; rfl
    have c1 : w2.cell? ⟨w.heap.size, 1, none⟩ = some (.int .i64 e.day) := by rw [cell_of_row _ _ _ _ _ _ B2.out, ← HC.out]; rfl
    have c2 : w2.cell? ⟨w.heap.size, 2, none⟩ = some (.int .i64 e.plan) := by rw [cell_of_row _ _ _ _ _ _ B2.out, ← HC.out]; rfl
    have c3 : w2.cell? ⟨w.heap.size, 3, none⟩ = some (.int .i64 e.step) := by rw [cell_of_row _ _ _ _ _ _ B2.out, ← HC.out]; rfl
    have b1 : (e.kind == 1) = false := by rw [HK.out]; rfl
    have b2 : (e.kind == 2) = false := by rw [HK.out]; rfl
    have b4 : (e.kind == 4) = false := by rw [HK.out]; rfl
    have b6 : (e.kind == 6) = true := by rw [HK.out]; rfl
    have hr : w2.rangeAt w.heap.size 12 (lnkcells e.lnk) := range_row B2.out 12 _ (by rw [← HC.out]; exact le_lnk e v s)
    have HRG := hid hr
    clear hr
    go_wp2_with (first | (refine wpList_loadAt rfl 107 (.tmp 44) rfl rfl (tyLnk e.lnk) HRG.out ?_) | fail)
    refine (refLink_walk e.lnk w2 HW.out.lnk ⟨by have := HSM.out.lnk; omega, by have := HSM.out.lnk; omega⟩).mono ?_
    rintro en w3 ⟨v3, rfl, hown3, hf3⟩
    have O3 := hid (And.intro hown3 (And.intro (O2.out.kn (Step.none hf3)) (Step.none hf3)))
    have B3 := hid (row_of (Step.none hf3) B2.out (by simp))
    have HL := hid (encLnk_len e.lnk HW.out.lnk HSM.out.lnk)
    clear hown3 hf3 c0 c1 c2 c3
    go_wp2_with (at_builtin; go_must (refine wpList_app bytesT rfl _ _ rfl _ _ _ rfl O3.out.2.1 _ _ _ rfl (Sl.of_own O3.out.1) bv_ones (by have := HE.out; have := HL.out; omega) ?_; intro v5 w5 hown5 hst5))
    go_ret
    rw [← List.length_append, ← bv_append] at hown5
    exact ⟨_, rfl, by rw [encLE_of (show encLEt e = encLnk e.lnk by unfold encLEt; rw [if_neg h1, if_neg h2, if_neg h4, if_pos HK.out])]; exact hown5, F2.out.trans (Step.grown O3.out.2.2 hst5)⟩
  by_cases h7 : e.kind = 7
  · have HK := hid h7
    clear h7
    go_enter Try.func60, Try.ntmps60
    have ga := World.grownBy_alloc w (.cells C.toArray 111) none
    have hb0 := heap_at (w := w) (o := .cells C.toArray 111) rfl
    have c0 : (w.alloc (.cells C.toArray 111)).cell? ⟨w.heap.size, 0, none⟩ = some (.int .i64 e.kind) := by rw [cell_of_row _ _ _ _ _ _ hb0, ← HC.out]; rfl
    have c1 : (w.alloc (.cells C.toArray 111)).cell? ⟨w.heap.size, 1, none⟩ = some (.int .i64 e.day) := by rw [cell_of_row _ _ _ _ _ _ hb0, ← HC.out]; rfl
    have c2 : (w.alloc (.cells C.toArray 111)).cell? ⟨w.heap.size, 2, none⟩ = some (.int .i64 e.plan) := by rw [cell_of_row _ _ _ _ _ _ hb0, ← HC.out]; rfl
    have c3 : (w.alloc (.cells C.toArray 111)).cell? ⟨w.heap.size, 3, none⟩ = some (.int .i64 e.step) := by rw [cell_of_row _ _ _ _ _ _ hb0, ← HC.out]; rfl
    have GA := hid ga
    have HB0 := hid hb0
    clear ga hb0
    go_wp2_with fail
    refine (refInts_walk _ [e.kind, e.day, e.plan, e.step] ((w.alloc (.cells C.toArray 111)).alloc (.cells ([e.kind, e.day, e.plan, e.step].map (Value.int .i64)).toArray 3)) (sl_blk (B := w.heap.size + 1) (xs := [e.kind, e.day, e.plan, e.step].map (Value.int .i64)) (heap_at (w := w.alloc (.cells C.toArray 111)) (o := .cells ([e.kind, e.day, e.plan, e.step].map (Value.int .i64)).toArray 3) (n := w.heap.size + 1) (by simp)) ⟨rfl, by simp⟩) (fun b hb => by simp [Value.ownBlock] at hb; subst hb; simp) HN.out (by simp)).mono ?_
    rintro en w2 ⟨v2, rfl, hown2, hf2⟩
    have g2 := grown_trans (World.grownBy_alloc (w.alloc (.cells C.toArray 111)) (.cells ([e.kind, e.day, e.plan, e.step].map (Value.int .i64)).toArray 3) none) (Step.none hf2)
    have B2 := hid (row_of g2 HB0.out (by simp))
    have O2 := hid hown2
    have F2 := hid (show Fresh w w2 v2 from Step.grown GA.out (Step.grown (World.grownBy_alloc (w.alloc (.cells C.toArray 111)) _ none) hf2))
    clear c0 c1 c2 c3 hown2 hf2 g2
    have c0 : w2.cell? ⟨w.heap.size, 0, none⟩ = some (.int .i64 e.kind) := by rw [cell_of_row _ _ _ _ _ _ B2.out, ← HC.out]; rfl
    have c1 : w2.cell? ⟨w.heap.size, 1, none⟩ = some (.int .i64 e.day) := by rw [cell_of_row _ _ _ _ _ _ B2.out, ← HC.out]; rfl
    have c2 : w2.cell? ⟨w.heap.size, 2, none⟩ = some (.int .i64 e.plan) := by rw [cell_of_row _ _ _ _ _ _ B2.out, ← HC.out]; rfl
    have c3 : w2.cell? ⟨w.heap.size, 3, none⟩ = some (.int .i64 e.step) := by rw [cell_of_row _ _ _ _ _ _ B2.out, ← HC.out]; rfl
    have b1 : (e.kind == 1) = false := by rw [HK.out]; rfl
    have b2 : (e.kind == 2) = false := by rw [HK.out]; rfl
    have b4 : (e.kind == 4) = false := by rw [HK.out]; rfl
    have b6 : (e.kind == 6) = false := by rw [HK.out]; rfl
    have b7 : (e.kind == 7) = true := by rw [HK.out]; rfl
    have hr : w2.rangeAt w.heap.size 22 (hldcells e.hld) := range_row B2.out 22 _ (by rw [← HC.out]; exact le_hld e v s)
    have HRG := hid hr
    clear hr
    go_wp2_with (first | (refine wpList_loadAt rfl 109 (.tmp 51) rfl rfl (tyHld e.hld) HRG.out ?_) | fail)
    refine (refHold_walk e.hld w2 HW.out.hld (by have := HSM.out.hld; omega)).mono ?_
    rintro en w3 ⟨v3, rfl, hown3, hf3⟩
    have O3 := hid (And.intro hown3 (And.intro (O2.out.kn (Step.none hf3)) (Step.none hf3)))
    have B3 := hid (row_of (Step.none hf3) B2.out (by simp))
    have HL := hid (encHld_len e.hld HW.out.hld HSM.out.hld)
    clear hown3 hf3 c0 c1 c2 c3
    go_wp2_with (at_builtin; go_must (refine wpList_app bytesT rfl _ _ rfl _ _ _ rfl O3.out.2.1 _ _ _ rfl (Sl.of_own O3.out.1) bv_ones (by have := HE.out; have := HL.out; omega) ?_; intro v5 w5 hown5 hst5))
    go_ret
    rw [← List.length_append, ← bv_append] at hown5
    exact ⟨_, rfl, by rw [encLE_of (show encLEt e = encHld e.hld by unfold encLEt; rw [if_neg h1, if_neg h2, if_neg h4, if_neg h6, if_pos HK.out])]; exact hown5, F2.out.trans (Step.grown O3.out.2.2 hst5)⟩
  go_enter Try.func60, Try.ntmps60
  have ga := World.grownBy_alloc w (.cells C.toArray 111) none
  have hb0 := heap_at (w := w) (o := .cells C.toArray 111) rfl
  have c0 : (w.alloc (.cells C.toArray 111)).cell? ⟨w.heap.size, 0, none⟩ = some (.int .i64 e.kind) := by rw [cell_of_row _ _ _ _ _ _ hb0, ← HC.out]; rfl
  have c1 : (w.alloc (.cells C.toArray 111)).cell? ⟨w.heap.size, 1, none⟩ = some (.int .i64 e.day) := by rw [cell_of_row _ _ _ _ _ _ hb0, ← HC.out]; rfl
  have c2 : (w.alloc (.cells C.toArray 111)).cell? ⟨w.heap.size, 2, none⟩ = some (.int .i64 e.plan) := by rw [cell_of_row _ _ _ _ _ _ hb0, ← HC.out]; rfl
  have c3 : (w.alloc (.cells C.toArray 111)).cell? ⟨w.heap.size, 3, none⟩ = some (.int .i64 e.step) := by rw [cell_of_row _ _ _ _ _ _ hb0, ← HC.out]; rfl
  have GA := hid ga
  have HB0 := hid hb0
  clear ga hb0
  go_wp2_with fail
  refine (refInts_walk _ [e.kind, e.day, e.plan, e.step] ((w.alloc (.cells C.toArray 111)).alloc (.cells ([e.kind, e.day, e.plan, e.step].map (Value.int .i64)).toArray 3)) (sl_blk (B := w.heap.size + 1) (xs := [e.kind, e.day, e.plan, e.step].map (Value.int .i64)) (heap_at (w := w.alloc (.cells C.toArray 111)) (o := .cells ([e.kind, e.day, e.plan, e.step].map (Value.int .i64)).toArray 3) (n := w.heap.size + 1) (by simp)) ⟨rfl, by simp⟩) (fun b hb => by simp [Value.ownBlock] at hb; subst hb; simp) HN.out (by simp)).mono ?_
  rintro en w2 ⟨v2, rfl, hown2, hf2⟩
  have g2 := grown_trans (World.grownBy_alloc (w.alloc (.cells C.toArray 111)) (.cells ([e.kind, e.day, e.plan, e.step].map (Value.int .i64)).toArray 3) none) (Step.none hf2)
  have B2 := hid (row_of g2 HB0.out (by simp))
  have O2 := hid hown2
  have F2 := hid (show Fresh w w2 v2 from Step.grown GA.out (Step.grown (World.grownBy_alloc (w.alloc (.cells C.toArray 111)) _ none) hf2))
  clear c0 c1 c2 c3 hown2 hf2 g2
  have c0 : w2.cell? ⟨w.heap.size, 0, none⟩ = some (.int .i64 e.kind) := by rw [cell_of_row _ _ _ _ _ _ B2.out, ← HC.out]; rfl
  have c1 : w2.cell? ⟨w.heap.size, 1, none⟩ = some (.int .i64 e.day) := by rw [cell_of_row _ _ _ _ _ _ B2.out, ← HC.out]; rfl
  have c2 : w2.cell? ⟨w.heap.size, 2, none⟩ = some (.int .i64 e.plan) := by rw [cell_of_row _ _ _ _ _ _ B2.out, ← HC.out]; rfl
  have c3 : w2.cell? ⟨w.heap.size, 3, none⟩ = some (.int .i64 e.step) := by rw [cell_of_row _ _ _ _ _ _ B2.out, ← HC.out]; rfl
  have b1 : (e.kind == 1) = false := by simpa using h1
  have b2 : (e.kind == 2) = false := by simpa using h2
  have b4 : (e.kind == 4) = false := by simpa using h4
  have b6 : (e.kind == 6) = false := by simpa using h6
  have b7 : (e.kind == 7) = false := by simpa using h7
  go_wp2
  go_ret
  exact ⟨_, rfl, by rw [encLE_of (show encLEt e = [] by unfold encLEt; rw [if_neg h1, if_neg h2, if_neg h4, if_neg h6, if_neg h7]), List.append_nil]; exact O2.out, F2.out⟩
end Go.Proofs.Ytkeiffccllfkpaa
