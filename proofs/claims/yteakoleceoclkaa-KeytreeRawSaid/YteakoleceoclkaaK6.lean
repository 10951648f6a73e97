/- Key trees: Valid of the program. -/
import Derived.Test.YteakoleceoclkaaK5
namespace Go.Proofs.Yteakoleceoclkaa
open Go.RowKit Go.Shelf
set_option linter.unusedSimpArgs false
set_option linter.unusedVariables false
attribute [local go_sem] Oper.semAt_some

/-- what is covered behind a list of nodes, if each begins where nothing is covered yet -/
def stp (c : Int) (n : Nd) : Option Int := if span n = (0, 0) then none else if (span n).1 < c then none else some (span n).2
def run : Int → List Nd → Option Int
  | c, [] => some c
  | c, n :: l => (stp c n).bind fun c => run c l
theorem run_snoc (c : Int) (l : List Nd) (n : Nd) : run c (l ++ [n]) = (run c l).bind fun c => stp c n := by
  induction l generalizing c with
  | nil => simp [run, Option.bind_some]
  | cons x l ih =>
    simp only [List.cons_append, run]
    cases stp c x with
    | none => rfl
    | some d => simp [ih]
theorem run_none {c : Int} {l m : List Nd} (h : run c l = none) : run c (l ++ m) = none := by
  induction l generalizing c with
  | nil => simp [run] at h
  | cons x l ih =>
    simp only [List.cons_append, run] at h ⊢
    cases hs : stp c x with
    | none => rfl
    | some d => rw [hs] at h; simp at h ⊢; exact ih h
def vld (l : List Nd) : Bool := decide (l.length ≤ 32768) && (run 0 l).isSome
/-- a slice reads as nodes and lies in the memory that there is -/
def RdL (w : World) (s : Value) (l : List NdK) : Prop := RdN w s (l.map (·.1)) ∧ (∀ k, s.ownBlock = some k → k < w.heap.size) ∧ l.length ≤ 1099511627776
theorem RdL.kn {w w' : World} {s : Value} {l : List NdK} (h : RdL w s l) (g : w.grownBy w' none) : RdL w' s l := ⟨h.1.kn g, fun k hk => Nat.lt_of_lt_of_le (h.2.1 k hk) g.size, h.2.2⟩
theorem RdL.shape {w : World} {s : Value} {l : List NdK} (h : RdL w s l) : ∃ ao cap, s = .slice ao l.length cap ∧ l.length ≤ cap ∧ cap ≤ 9223372036854775807 := by
  obtain ⟨ao, cap, e, h1, h2⟩ := Sl.shape h.1.1
  rw [List.length_map] at e h1
  exact ⟨ao, cap, e, h1, h2⟩
theorem tyT (v : Value) (h : v.oneCell' = true) : TY Try.prog 34 [v] (.agg #[v]) := TY.agg Try.underlying34 rfl (by kernel_rfl) (by simp [h])
theorem tyBo (b : Bool) : TY Try.prog 4 [.bool b] (.bool b) := TY.one' Try.underlying4 rfl (by kernel_rfl) rfl
theorem grown_from {w X Y : World} {row : Option Nat} (h : w.grownBy X none) (hg : X.grownBy Y row) (hr : ∀ r, row = some r → w.heap.size ≤ r) : w.grownBy Y none := by
  cases row with
  | none => exact grown_trans h hg
  | some r => exact grown_newR h hg (hr r rfl)
theorem keeps_none {B : Nat} {V V' : World} (g : V.grownBy V' none) : KeepsFrom B V V' := ⟨g.size, fun k o _ h _ => row_of g h (by simp)⟩
theorem keeps_row {B r : Nat} {V V' : World} {c : Array Value} {t : TypeId} {fr : Nat × Nat} (g : V.grownBy V' (some r)) (hr : V.heap[r]? = some (.cells c t fr)) : KeepsFrom B V V' :=
  ⟨g.size, fun k o _ h ho => row_of g h (fun e => by cases e; rw [hr] at h; cases h; cases ho)⟩
theorem below_grown {B : Nat} {V V' : World} {row : Option Nat} (g : V.grownBy V' row) (hB : B ≤ V.heap.size) (hr : ∀ k, row = some k → B ≤ k) : Below B V V' := (Below.refl B V).grown g hB hr
theorem fold_two (p q : Nat) (tm : Array Value) (x : NdK) : (#[p, q].zip (encN x)).foldl (fun t (p, v) => t.setIfInBounds p v) tm = (tm.setIfInBounds p (sval2 (span x.1))).setIfInBounds q (nval x.1) := by
  simp [encN]
/-- the invariant between two rounds of Valid -/
def VI (w : World) (S B : Nat) (pre : List NdK) (V : World) : Prop := ∃ c, run 0 (pre.map (·.1)) = some c ∧ V.heap[B + 2]? = some (.cells #[.int .i64 c] 2 (0, 0)) ∧ V.heap[B + 1]? = some (.cells #[.bool false] 4 (0, 0)) ∧ w.grownBy V none ∧ S ≤ V.heap.size
/-- behind a round that returned -/
def VX (w : World) (B : Nat) (c : Code) (pre : List NdK) (V : World) : Prop := c = .ret ∧ run 0 (pre.map (·.1)) = none ∧ V.heap[B + 1]? = some (.cells #[.bool false] 4 (0, 0)) ∧ w.grownBy V none
/-- behind the assignment of a round -/
def VA (S B : Nat) (tm : Nat → Value → Value → Act) (x : NdK) (a : Act) (V : World) : Prop := ∃ Bs, S ≤ Bs ∧ V.heap[Bs]? = some (.cells #[.int .i64 (span x.1).1, .int .i64 (span x.1).2] 89 (0, 0)) ∧ a = tm Bs (sval2 (span x.1)) (nval x.1)
theorem VI.kn {w V V' : World} {S B : Nat} {pre : List NdK} (h : VI w S B pre V) (g : V.grownBy V' none) : VI w S B pre V' := by
  obtain ⟨c, h1, h2, h3, h4, h5⟩ := h
  exact ⟨c, h1, row_of g h2 (by simp), row_of g h3 (by simp), grown_trans h4 g, Nat.le_trans h5 g.size⟩
theorem VI.own {w W : World} {B : Nat} (hB : B = w.heap.size) (hs : W.heap.size = B + 4) : OwnFrom W.heap.size (VI w W.heap.size B) := fun pre X Y row ⟨c, h1, h2, h3, h4, h5⟩ hg hr =>
  ⟨c, h1, row_of hg h2 (fun e => by have := (hr _ e.symm).1; omega), row_of hg h3 (fun e => by have := (hr _ e.symm).1; omega), grown_from h4 hg (fun r e => by have := (hr r e).1; omega), Nat.le_trans h5 hg.size⟩
theorem VX.own {w W : World} {B : Nat} {c : Code} (hB : B = w.heap.size) (hs : W.heap.size = B + 4) : OwnFrom W.heap.size (VX w B c) := fun pre X Y row ⟨h1, h2, h3, h4⟩ hg hr =>
  ⟨h1, h2, row_of hg h3 (fun e => by have := (hr _ e.symm).1; omega), grown_from h4 hg (fun r e => by have := (hr r e).1; omega)⟩
theorem VA.own {W : World} {S B : Nat} {tm : Nat → Value → Value → Act} {x : NdK} {a : Act} : OwnFrom W.heap.size (fun (_ : Unit) V => VA S B tm x a V) := fun _ X Y row ⟨Bs, h1, h2, h3⟩ hg hr =>
  ⟨Bs, h1, row_of hg h2 (fun e => by obtain ⟨_, o, ho, hc⟩ := hr _ e.symm; rw [h2] at ho; cases ho; cases hc), h3⟩
set_option maxRecDepth 100000 in
set_option maxHeartbeats 4000000 in
theorem valid_walk (l : List NdK) (s : Value) (w : World) (hR : RdL w s l) :
    Calls Try.prog 27 #[.agg #[s]] w fun e w' => e = .returned (.bool (vld (l.map (·.1)))) ∧ w.grownBy w' none := by
  obtain ⟨ao, cap, rfl, p1, p2⟩ := hR.shape
  have HR := hid hR
  obtain ⟨vl, hvl⟩ : ∃ v, v = vld (l.map (·.1)) := ⟨_, rfl⟩
  rw [← hvl]
  have HV := hid hvl
  obtain ⟨B, hB⟩ : ∃ B, B = w.heap.size := ⟨_, rfl⟩
  have HBq := hid hB
  obtain ⟨m, hm⟩ : ∃ m, m = l.length := ⟨_, rfl⟩
  have hm0 : m ≤ 1099511627776 := by rw [hm]; exact hR.2.2
  rw [← hm] at HR p1 ⊢
  have HM := hid hm
  clear hR hvl hB hm
  refine (callsIn_wide (n := 4)).1 (callsIn_of_wp_marks Try.func27 rfl trivial ?_ rfl)
  simp only [Try.ntmps27, List.size_toArray, List.length_cons, List.length_nil, Nat.reduceAdd, Nat.reduceSub, Array.replicate_succ, Array.replicate_zero, List.push_toArray, List.append_toArray, List.nil_append, List.cons_append]
  refine wpIn_wide.2 ?_
  by_cases h1 : 32768 < m
  · have t1 : decide ((32768 : Int) < (m : Int)) = true := by simp; omega
    have HZ := hid (show vl = false by rw [HV.out]; unfold vld; rw [List.length_map, ← HM.out]; simp; omega)
    go_wp2
    refine leavesM_fn (f := 64) (args := #[]) (by simp [go_sem]) ?_
    refine (recValid_walk _ _).mono ?_
    rintro e u' w' ⟨rfl, rfl, rfl⟩
    refine ⟨⟨_, rfl⟩, rfl, leavesM_nil (results1 (p := 2) (b0 := w.heap.size + 1) rfl rfl (tyBo false) (heap_at (by simp))) ⟨by rw [HZ.out], grown_trans (World.grownBy_alloc _ _ _) (World.grownBy_alloc _ _ _)⟩⟩
  · have t1 : decide ((32768 : Int) < (m : Int)) = false := by simp; omega
    go_wp2_with fail
    refine (walk_walk ao m cap _).mono ?_
    rintro e w1 ⟨rfl, rfl⟩
    go_wp2
    rw [← HBq.out]
    obtain ⟨W, hW⟩ : ∃ W, W = (((w.alloc (.cells #[.slice ao m cap] 34)).alloc (.cells #[.bool false] 4)).alloc (.cells #[.int .i64 0] 2)).alloc (.cells #[.slice ao m cap] 34) := ⟨_, rfl⟩
    have hWg : w.grownBy W none := by rw [hW]; exact grown_trans (grown_trans (grown_trans (World.grownBy_alloc _ _ _) (World.grownBy_alloc _ _ _)) (World.grownBy_alloc _ _ _)) (World.grownBy_alloc _ _ _)
    have hWs : W.heap.size = B + 4 := by rw [hW, HBq.out]; simp
    have b1 : W.heap[B + 1]? = some (.cells #[.bool false] 4 (0, 0)) := by rw [hW, HBq.out, heap_past (by simp), heap_past (by simp), heap_at (by simp)]
    have b2 : W.heap[B + 2]? = some (.cells #[.int .i64 0] 2 (0, 0)) := by rw [hW, HBq.out, heap_past (by simp), heap_at (by simp)]
    have b3 : W.heap[B + 3]? = some (.cells #[.slice ao m cap] 34 (0, 0)) := by rw [hW, HBq.out, heap_at (by simp)]
    rw [← hW]
    clear hW
    have c3 : W.cell? ⟨B + 1 + 1 + 1, 0, none⟩ = some (.slice ao m cap) := by rw [cell_of_row _ _ _ _ _ _ b3]; rfl
    have hRW := HR.out.kn hWg
    have hBW := HR.out.2.1
    rw [← HBq.out] at hBW
    refine (wpIn_wide (n := 4)).1 ?_
    refine wpIn_rangeFunc_ownH (F := Fence.wide) rfl (by decide) (gf := 84) (lb := #[.pointer (some ⟨B + 1 + 1 + 1, 0, none⟩)]) rfl trivial (enters_of Try.func84 (by kernel_rfl) rfl)
      (walk1_stops 3 B (B + 1 + 1 + 1) l (.slice ao m cap) W c3 hRW.1 hRW.2.2 hBW (by omega)) (fun h k => h.trans k)
      (fun V q o o' hq hl _ _ => (Below.refl B V).grown (grownBy_putObj' V q o') (by have := (Array.getElem?_eq_some_iff.1 hl).1; omega) (fun k e => by cases e; omega)) (Below.refl _ _) (fun _ => rfl)
      (VI w W.heap.size B) (VX w B) (VI.own HBq.out hWs) (fun c => VX.own HBq.out hWs) ⟨0, rfl, b2, b1, hWg, Nat.le_refl _⟩
      (VA W.heap.size B (fun Bs u v => { tmps := #[.agg #[.slice ao m cap], .pointer (some ⟨B, 0, none⟩), .pointer (some ⟨B + 1, 0, none⟩), .pointer (some ⟨B + 1 + 1, 0, none⟩), .pointer (some ⟨Bs, 0, none⟩), .pointer (some ⟨B, 0, none⟩), .slice ao m cap, .int .i64 m, .bool false, .agg #[.slice ao m cap], .func (.func 84) #[] #[.pointer (some ⟨B + 1 + 1 + 1, 0, none⟩)], u, v, undef, undef, undef, undef, undef, undef, undef, undef, undef, undef, undef], defers := [] }))
      (fun x a' => VA.own) ?assign ?body ?done ?stop
    case assign =>
      intro lp pre x V K hi hK
      have HK := hid hK
      have HI := hid hi
      have hVs : B ≤ V.heap.size := by
        obtain ⟨c, _, _, _, h4, _⟩ := hi
        rw [HBq.out]
        exact h4.size
      have hWV : W.heap.size ≤ V.heap.size := by
        obtain ⟨c, _, _, _, _, h5⟩ := hi
        exact h5
      have HWV := hid hWV
      have HVs := hid hVs
      clear hK hi b1 b2 b3 c3 hRW hBW hWs hWg hVs hWV
      rw [fold_two]
      simp only [List.setIfInBounds_toArray, List.set_cons_succ, List.set_cons_zero]
      refine region_in (ro := some lp) (fun ⟨_, _, h⟩ => h) (by kernel_rfl) ?_
      go_wp2_with (first
        | (refine wpList_storeTYg rfl 89 (.tmp 4) (.tmp 11) rfl rfl rfl (tyS2 (span x.1).1 (span x.1).2) (heap_at rfl) rfl ?_; intro V2 g2 h2; have G2 := hid (grown_newR (World.grownBy_alloc V _ none) g2 (Nat.le_refl _)); have H2 := hid h2; clear g2 h2)
        | fail)
      exact HK.out _ _ (keeps_none G2.out) (below_grown G2.out HVs.out (fun k e => by cases e)) (HI.out.kn G2.out) ⟨V.heap.size, HWV.out, H2.out, rfl⟩
    case body =>
      intro lp pre x a' V hle hrec hi hax hlen
      obtain ⟨c, hc1, hc2, hc3, hc4, hc5⟩ := hi
      obtain ⟨Bs, hBs, hb, rfl⟩ := hax
      have HC1 := hid hc1
      have HC2 := hid hc2
      have HC3 := hid hc3
      have HC4 := hid hc4
      have HC5 := hid hc5
      have HBs := hid hBs
      have HB := hid hb
      have HWS := hid hWs
      have RS := hid (show run 0 ((pre ++ [x]).map (·.1)) = stp c x.1 by rw [List.map_append, List.map_cons, List.map_nil, run_snoc, hc1]; rfl)
      have c4 : V.cell? ⟨Bs, 0, none⟩ = some (.int .i64 (span x.1).1) := by rw [cell_of_row _ _ _ _ _ _ hb]; rfl
      have c5 : V.cell? ⟨Bs, 1, none⟩ = some (.int .i64 (span x.1).2) := by rw [cell_of_row _ _ _ _ _ _ hb]; rfl
      have c6 : V.cell? ⟨B + 1 + 1, 0, none⟩ = some (.int .i64 c) := by rw [cell_of_row _ _ _ _ _ _ hc2]; rfl
      have y4 := block_lt_of_cell c4
      have y6 := block_lt_of_cell c6
      clear hc1 hc2 hc3 hc4 hc5 hBs hb hlen hle hrec b1 b2 b3 c3 hRW hBW hWs hWg
      generalize hsp : span x.1 = sp at *
      obtain ⟨sa, sb⟩ := sp
      have HSP := hid hsp
      clear hsp
      refine wpIn_block ?_
      change (Code.seq _ _).wpIn (Wd (some lp)) _ _ _ _ _
      refine wpIn_seq_k' fun K1 k1 => ?_
      have HK1 := hid k1
      clear k1
      refine wpIn_seq_k' fun K2 k2 => ?_
      have HK2 := hid k2
      clear k2
      refine region_in (ro := some lp) (fun ⟨_, _, h⟩ => h) (by kernel_rfl) ?_
      obtain ⟨UU, hUU⟩ : ∃ UU : Value, UU = sval2 (sa, sb) := ⟨_, rfl⟩
      have HTrue : stp c x.1 = none → ∀ u13 u14 u15 u16 u17 u18 u19 u20, K2 { tmps := #[.agg #[.slice ao m cap], .pointer (some ⟨B, 0, none⟩), .pointer (some ⟨B + 1, 0, none⟩), .pointer (some ⟨B + 1 + 1, 0, none⟩), .pointer (some ⟨Bs, 0, none⟩), .pointer (some ⟨B, 0, none⟩), .slice ao m cap, .int .i64 m, .bool false, .agg #[.slice ao m cap], .func (.func 84) #[] #[.pointer (some ⟨B + 1 + 1 + 1, 0, none⟩)], UU, nval x.1, u13, u14, u15, u16, u17, u18, u19, u20, .bool true, undef, undef], defers := [] } V := by
        intro hst u13 u14 u15 u16 u17 u18 u19 u20
        refine HK2.out _ _ (wpIn_cond_true rfl (wpIn_seq_k' fun K3 k3 => ?_))
        have HK3 := hid k3
        clear k3
        refine region_in (ro := some lp) (fun ⟨_, _, h⟩ => h) (by kernel_rfl) ?_
        go_wp2_with (first
          | (refine wpList_storeTYg rfl 4 (.tmp 2) (.const (.bool false)) rfl rfl rfl (tyBo false) HC3.out rfl ?_; intro V2 g2 h2; have G2 := hid g2; have H2 := hid h2; clear g2 h2)
          | fail)
        refine HK3.out _ _ (wpIn_ret ?_)
        exact ⟨keeps_row G2.out HC3.out, rfl, RS.out.trans hst, H2.out, grown_newR HC4.out G2.out (by rw [HBq.out]; omega)⟩
      have HFalse : stp c x.1 = some sb → ∀ u13 u14 u15 u16 u17 u18 u19 u20, K2 { tmps := #[.agg #[.slice ao m cap], .pointer (some ⟨B, 0, none⟩), .pointer (some ⟨B + 1, 0, none⟩), .pointer (some ⟨B + 1 + 1, 0, none⟩), .pointer (some ⟨Bs, 0, none⟩), .pointer (some ⟨B, 0, none⟩), .slice ao m cap, .int .i64 m, .bool false, .agg #[.slice ao m cap], .func (.func 84) #[] #[.pointer (some ⟨B + 1 + 1 + 1, 0, none⟩)], UU, nval x.1, u13, u14, u15, u16, u17, u18, u19, u20, .bool false, undef, undef], defers := [] } V := by
        intro hst u13 u14 u15 u16 u17 u18 u19 u20
        refine HK2.out _ _ (wpIn_cond_false rfl (wpIn_skip (HK1.out _ _ ?_)))
        refine region_in (ro := some lp) (fun ⟨_, _, h⟩ => h) (by kernel_rfl) ?_
        go_wp2_with (first
          | (refine wpList_storeTYg rfl 2 (.tmp 3) (.tmp 23) rfl rfl rfl (tyI sb) HC2.out rfl ?_; intro V2 g2 h2; have G2 := hid g2; have H2 := hid h2; clear g2 h2)
          | fail)
        exact ⟨keeps_row G2.out HC2.out, below_grown G2.out (by omega) (fun k e => by cases e; omega), sb, RS.out.trans hst, H2.out, row_of G2.out HC3.out (by simp), grown_newR HC4.out G2.out (by rw [HBq.out]; omega), Nat.le_trans HC5.out G2.out.size⟩
      rw [← hUU]
      clear hUU
      have hst0 := HSP.out
      go_wp2
      all_goals first
        | (refine HTrue ?_ _ _ _ _ _ _ _ _; simp_all [stp]; done)
        | (by_cases hc : (0 : Int) < c
           · simp only [hc, decide_true, decide_false]
             refine HTrue ?_ _ _ _ _ _ _ _ _
             unfold stp; rw [HSP.out]; simp_all; done
           · simp only [hc, decide_true, decide_false]
             refine HFalse ?_ _ _ _ _ _ _ _ _
             unfold stp; rw [HSP.out]; simp_all; done)
        | (by_cases hc : sa < c
           · simp only [hc, decide_true, decide_false]
             refine HTrue ?_ _ _ _ _ _ _ _ _
             unfold stp; rw [HSP.out]; simp_all
           · simp only [hc, decide_true, decide_false]
             refine HFalse ?_ _ _ _ _ _ _ _ _
             unfold stp; rw [HSP.out]; simp_all)
        | skip
    case done =>
      intro D xs V hD hS hI hK
      subst hS
      obtain ⟨c, hc1, hc2, hc3, hc4, hc5⟩ := hI
      have HC1 := hid hc1
      have HC3 := hid hc3
      have HC4 := hid hc4
      have HC5 := hid hc5
      have HKK := hid hK
      have HD := hid hD
      have HWS := hid hWs
      have HZ := hid (show vl = true by rw [HV.out]; unfold vld; rw [hc1, List.length_map, ← HM.out]; simp; omega)
      clear hc1 hc2 hc3 hc4 hc5 hK hD b1 b2 b3 c3 hRW hBW hWs hWg
      go_wp2_with (first
        | (refine wpList_storeTYg rfl 4 (.tmp 2) (.const (.bool true)) rfl rfl rfl (tyBo true) HC3.out rfl ?_; intro V2 g2 h2; have G2 := hid g2; have H2 := hid h2; clear g2 h2)
        | fail)
      have HKK2 := row_of G2.out HKK.out (by have := HWS.out; have := HD.out; simp; omega)
      refine leavesM_mark HKK2 ?_
      have GP := grownBy_putObj' V2 D (.deferred none)
      have HB1 := row_of GP H2.out (by have := HWS.out; have := HD.out; simp; omega)
      refine leavesM_fn (f := 64) (args := #[]) (by simp [go_sem]) ?_
      refine (recValid_walk _ _).mono ?_
      rintro e u' w' ⟨rfl, rfl, rfl⟩
      refine ⟨⟨_, rfl⟩, rfl, leavesM_nil (results1 (p := 2) (b0 := B + 1) rfl rfl (tyBo true) HB1) ⟨by rw [HZ.out], grown_newR (grown_newR HC4.out G2.out (by rw [HBq.out]; omega)) GP (by have := HWS.out; have := HD.out; have := HBq.out; omega)⟩⟩
    case stop =>
      intro D c pre V hD hS hI hK
      obtain ⟨rfl, h1, h2, h3⟩ := hI
      have HZ := hid (show vl = false by
        obtain ⟨t, ht⟩ := hS
        rw [HV.out]; unfold vld; rw [← ht, List.map_append, run_none h1]; simp)
      refine wpIn_ret ?_
      simp only [Exit.inBlock, Exit.then]
      refine leavesM_mark hK ?_
      have GP := grownBy_putObj' V D (.deferred none)
      have HB1 := row_of GP h2 (by simp; omega)
      refine leavesM_fn (f := 64) (args := #[]) (by simp [go_sem]) ?_
      refine (recValid_walk _ _).mono ?_
      rintro e u' w' ⟨rfl, rfl, rfl⟩
      refine ⟨⟨_, rfl⟩, rfl, leavesM_nil (results1 (p := 2) (b0 := B + 1) rfl rfl (tyBo false) HB1) ⟨by rw [HZ.out], grown_newR h3 GP (by have := HBq.out; omega)⟩⟩
end Go.Proofs.Yteakoleceoclkaa
