/- SameEntry on equal entries. -/
import Derived.Test.YtkeiffccllfkpaaN22
import Derived.Test.YtkeiffccllfkpaaN23
namespace Go.Proofs.Ytkeiffccllfkpaa
open Go.RowKit
set_option linter.unusedSimpArgs false

theorem wpList_loadH {P : Program} {ops : Array Oper} {rest : List Oper} {o : Oper} {a : Act} {w : World} {Q : Exit → Act → World → Prop} (T : TypeId) (x : Operand) (ho : o.op = .load T x) (hw : Region.wanted o (yielded ops a.tmps) = true)
    {b k : Nat} {cs : List Value} {v : Value} (hx : a.eval x = .pointer (some ⟨b, k, none⟩)) (ty : TY P T cs v) (hr : w.rangeAt b k cs)
    (h : wpList P ops Q rest (a.put o.dst v) w) : wpList P ops Q (o :: rest) a w := wpList_loadG hw T x ho hx ty hr h
theorem wpList_eqG {P : Program} {ops : Array Oper} {rest : List Oper} {o : Oper} {a : Act} {w : World} {Q : Exit → Act → World → Prop} (T T2 : TypeId) (x y : Operand) (ho : o.op = .binOp .eql T x y T2) (hw : Region.wanted o (yielded ops a.tmps) = true)
    {v u : Value} (hx : a.eval x = v) (hy : a.eval y = v) (hrun : (do eqGuard .eql T x y v v; binOp .eql T v v : Sem Value).run P w = .ok u w)
    (h : wpList P ops Q rest (a.put o.dst u) w) : wpList P ops Q (o :: rest) a w := by
  refine wpList_onG hw fun K hK => ?_
  unfold Oper.wp
  simp only [execOp, ho, hx, hy]
  simp only [Sem.run_bind] at hrun ⊢
  rw [hrun]
  exact hK _ _ h
set_option maxRecDepth 100000 in
set_option maxHeartbeats 8000000 in
theorem sameEntry_walk (e : LE) (v s v' s' : Value) (w : World) (hv : Sl w 3 v e.vers.length (e.vers.flatMap vercells)) (hs : Sl w 2 s e.srcs.length (e.srcs.flatMap srccells)) (hv' : Sl w 3 v' e.vers.length (e.vers.flatMap vercells)) (hs' : Sl w 2 s' e.srcs.length (e.srcs.flatMap srccells)) (hr : e.root.length = 32) :
    Calls Try.prog 62 #[leval e v s, leval e v' s'] w fun en w' => en = .returned (.bool true) ∧ w.grownBy w' none := by
  show Calls Try.prog 62 #[.agg (lecells e v s).toArray, .agg (lecells e v' s').toArray] w _
  have TV := hid (tyVersS hv)
  have TS := hid (tySrcsS hs)
  have TV' := hid (tyVersS hv')
  have TS' := hid (tySrcsS hs')
  have P0 : ((lecells e v s).drop 0).take (List.length [Value.int .i64 e.kind]) = [Value.int .i64 e.kind] := rfl
  have P1 : ((lecells e v s).drop 1).take (List.length [Value.int .i64 e.day]) = [Value.int .i64 e.day] := rfl
  have P2 : ((lecells e v s).drop 2).take (List.length [Value.int .i64 e.plan]) = [Value.int .i64 e.plan] := rfl
  have P3 : ((lecells e v s).drop 3).take (List.length [Value.int .i64 e.step]) = [Value.int .i64 e.step] := rfl
  have P4 : ((lecells e v s).drop 4).take (List.length (reqcells e.req)) = (reqcells e.req) := le_req e _ _
  have P5 : ((lecells e v s).drop 12).take (List.length (lnkcells e.lnk)) = (lnkcells e.lnk) := le_lnk e _ _
  have P6 : ((lecells e v s).drop 22).take (List.length (hldcells e.hld)) = (hldcells e.hld) := le_hld e _ _
  have P7 : ((lecells e v s).drop 31).take (List.length [v]) = [v] := le_vs e _ _
  have P8 : ((lecells e v s).drop 32).take (List.length [s]) = [s] := le_ss e _ _
  have P9 : ((lecells e v s).drop 33).take (List.length (bv e.root)) = (bv e.root) := le_root e _ _
  have Q0 : ((lecells e v' s').drop 0).take (List.length [Value.int .i64 e.kind]) = [Value.int .i64 e.kind] := rfl
  have Q1 : ((lecells e v' s').drop 1).take (List.length [Value.int .i64 e.day]) = [Value.int .i64 e.day] := rfl
  have Q2 : ((lecells e v' s').drop 2).take (List.length [Value.int .i64 e.plan]) = [Value.int .i64 e.plan] := rfl
  have Q3 : ((lecells e v' s').drop 3).take (List.length [Value.int .i64 e.step]) = [Value.int .i64 e.step] := rfl
  have Q4 : ((lecells e v' s').drop 4).take (List.length (reqcells e.req)) = (reqcells e.req) := le_req e _ _
  have Q5 : ((lecells e v' s').drop 12).take (List.length (lnkcells e.lnk)) = (lnkcells e.lnk) := le_lnk e _ _
  have Q6 : ((lecells e v' s').drop 22).take (List.length (hldcells e.hld)) = (hldcells e.hld) := le_hld e _ _
  have Q7 : ((lecells e v' s').drop 31).take (List.length [v']) = [v'] := le_vs e _ _
  have Q8 : ((lecells e v' s').drop 32).take (List.length [s']) = [s'] := le_ss e _ _
  have Q9 : ((lecells e v' s').drop 33).take (List.length (bv e.root)) = (bv e.root) := le_root e _ _
  generalize lecells e v s = C at *
  generalize lecells e v' s' = C' at *
  have gb := World.grownBy_alloc (w.alloc (.cells C.toArray 111)) (.cells C'.toArray 111) none
  have ga := grown_trans (World.grownBy_alloc w (.cells C.toArray 111) none) gb
  have hx := row_of gb (heap_at (w := w) (o := .cells C.toArray 111) rfl) (by simp)
  have hy := heap_at (w := w.alloc (.cells C.toArray 111)) (o := .cells C'.toArray 111) (n := w.heap.size + 1) (by simp)
  have HV := hid (hv.kept ga (by cases v.ownBlock <;> simp))
  have HS := hid (hs.kept ga (by cases s.ownBlock <;> simp))
  have HV' := hid (hv'.kept ga (by cases v'.ownBlock <;> simp))
  have HS' := hid (hs'.kept ga (by cases s'.ownBlock <;> simp))
  have GA := hid ga
  have A0 := hid (range_row hx 0 [Value.int .i64 e.kind] P0)
  have A1 := hid (range_row hx 1 [Value.int .i64 e.day] P1)
  have A2 := hid (range_row hx 2 [Value.int .i64 e.plan] P2)
  have A3 := hid (range_row hx 3 [Value.int .i64 e.step] P3)
  have A4 := hid (range_row hx 4 (reqcells e.req) P4)
  have A5 := hid (range_row hx 12 (lnkcells e.lnk) P5)
  have A6 := hid (range_row hx 22 (hldcells e.hld) P6)
  have A7 := hid (range_row hx 31 [v] P7)
  have A8 := hid (range_row hx 32 [s] P8)
  have A9 := hid (range_row hx 33 (bv e.root) P9)
  have B0 := hid (range_row hy 0 [Value.int .i64 e.kind] Q0)
  have B1 := hid (range_row hy 1 [Value.int .i64 e.day] Q1)
  have B2 := hid (range_row hy 2 [Value.int .i64 e.plan] Q2)
  have B3 := hid (range_row hy 3 [Value.int .i64 e.step] Q3)
  have B4 := hid (range_row hy 4 (reqcells e.req) Q4)
  have B5 := hid (range_row hy 12 (lnkcells e.lnk) Q5)
  have B6 := hid (range_row hy 22 (hldcells e.hld) Q6)
  have B7 := hid (range_row hy 31 [v'] Q7)
  have B8 := hid (range_row hy 32 [s'] Q8)
  have B9 := hid (range_row hy 33 (bv e.root) Q9)
  clear hx hy ga gb hv hs hv' hs' P0 P1 P2 P3 P4 P5 P6 P7 P8 P9 Q0 Q1 Q2 Q3 Q4 Q5 Q6 Q7 Q8 Q9
  have TR := hid (tyReq e.req)
  have TL := hid (tyLnk e.lnk)
  have TH := hid (tyHld e.hld)
  have TD := hid (tyDig e.root hr)
  have ER := hid (req_eq e.req)
  have EL := hid (lnk_eq e.lnk)
  have EH := hid (hld_eq e.hld)
  have ED := hid (dig_eq e.root hr)
  clear hr
  generalize valReq e.req = q1 at *
  generalize valLnk e.lnk = q2 at *
  generalize valHld e.hld = q3 at *
  generalize Value.agg (bv e.root).toArray = q4 at *
  generalize reqcells e.req = k1 at *
  generalize lnkcells e.lnk = k2 at *
  generalize hldcells e.hld = k3 at *
  generalize bv e.root = k4 at *
  go_enter Try.func62, Try.ntmps62
  simp only [List.append_eq, List.cons_append, List.nil_append]
  go_wp2_with (first | (refine wpList_loadH 3 (.tmp 5) rfl rfl rfl (ty3 e.kind) A0.out ?_) | (refine wpList_loadH 3 (.tmp 7) rfl rfl rfl (ty3 e.kind) B0.out ?_) | (refine wpList_loadH 3 (.tmp 11) rfl rfl rfl (ty3 e.day) A1.out ?_) | (refine wpList_loadH 3 (.tmp 13) rfl rfl rfl (ty3 e.day) B1.out ?_) | (refine wpList_loadH 3 (.tmp 18) rfl rfl rfl (ty3 e.plan) A2.out ?_) | (refine wpList_loadH 3 (.tmp 20) rfl rfl rfl (ty3 e.plan) B2.out ?_) | (refine wpList_loadH 3 (.tmp 25) rfl rfl rfl (ty3 e.step) A3.out ?_) | (refine wpList_loadH 3 (.tmp 27) rfl rfl rfl (ty3 e.step) B3.out ?_) | (refine wpList_loadH 105 (.tmp 32) rfl rfl rfl TR.out A4.out ?_) | (refine wpList_loadH 105 (.tmp 34) rfl rfl rfl TR.out B4.out ?_) | (refine wpList_eqG 105 105 (.tmp 33) (.tmp 35) rfl rfl rfl rfl (ER.out _ _ _) ?_) | (refine wpList_loadH 107 (.tmp 39) rfl rfl rfl TL.out A5.out ?_) | (refine wpList_loadH 107 (.tmp 41) rfl rfl rfl TL.out B5.out ?_) | (refine wpList_eqG 107 107 (.tmp 40) (.tmp 42) rfl rfl rfl rfl (EL.out _ _ _) ?_) | (refine wpList_loadH 109 (.tmp 46) rfl rfl rfl TH.out A6.out ?_) | (refine wpList_loadH 109 (.tmp 48) rfl rfl rfl TH.out B6.out ?_) | (refine wpList_eqG 109 109 (.tmp 47) (.tmp 49) rfl rfl rfl rfl (EH.out _ _ _) ?_) | (refine wpList_loadH 42 (.tmp 53) rfl rfl rfl TV.out A7.out ?_) | (refine wpList_loadH 42 (.tmp 55) rfl rfl rfl TV'.out B7.out ?_) | fail)
  refine (sameVers_walk v v' e.vers e.vers _ HV.out HV'.out).mono ?_
  rintro en w1 ⟨he, g1⟩
  rw [decide_eq_true rfl] at he
  subst he
  have G1 := hid (grown_trans GA.out g1)
  have HS1 := hid (HS.out.kept g1 (by cases s.ownBlock <;> simp))
  have HS1' := hid (HS'.out.kept g1 (by cases s'.ownBlock <;> simp))
  have A8n := hid (rangeAt_kept A8.out g1)
  have B8n := hid (rangeAt_kept B8.out g1)
  have A9n := hid (rangeAt_kept A9.out g1)
  have B9n := hid (rangeAt_kept B9.out g1)
  clear g1
  go_wp2_with (first | (refine wpList_loadH 43 (.tmp 60) rfl rfl rfl TS.out A8n.out ?_) | (refine wpList_loadH 43 (.tmp 62) rfl rfl rfl TS'.out B8n.out ?_) | fail)
  refine (sameSrcs_walk s s' e.srcs e.srcs _ HS1.out HS1'.out).mono ?_
  rintro en w2 ⟨he, g2⟩
  rw [decide_eq_true rfl] at he
  subst he
  have G2 := hid (grown_trans G1.out g2)
  have A9m := hid (rangeAt_kept A9n.out g2)
  have B9m := hid (rangeAt_kept B9n.out g2)
  clear g2
  go_wp2_with (first | (refine wpList_loadH 45 (.tmp 67) rfl rfl rfl TD.out A9m.out ?_) | (refine wpList_loadH 45 (.tmp 69) rfl rfl rfl TD.out B9m.out ?_) | (refine wpList_eqG 45 45 (.tmp 68) (.tmp 70) rfl rfl rfl rfl (ED.out _ _ _) ?_) | fail)
  go_ret
  exact ⟨rfl, G2.out⟩
end Go.Proofs.Ytkeiffccllfkpaa
