/- Key trees: Gaps of the program. -/
import Derived.Test.YteakoleceoclkaaK6
namespace Go.Proofs.Yteakoleceoclkaa
open Go.RowKit Go.Shelf
set_option linter.unusedSimpArgs false
set_option linter.unusedVariables false
attribute [local go_sem] Oper.semAt_some

/-- intervals as cells -/
def gcells (l : List (Int × Int)) : List Value := l.flatMap fun p => [.int .i64 p.1, .int .i64 p.2]
theorem gcells_snoc (l : List (Int × Int)) (a b : Int) : gcells (l ++ [(a, b)]) = gcells l ++ [.int .i64 a, .int .i64 b] := by simp [gcells]
def gst (s : Int × List (Int × Int)) (n : Nd) : Int × List (Int × Int) := ((span n).2, if s.1 < (span n).1 then s.2 ++ [(s.1, (span n).1)] else s.2)
def gfold (l : List Nd) : Int × List (Int × Int) := l.foldl gst (0, [])
theorem gfold_snoc (l : List Nd) (n : Nd) : gfold (l ++ [n]) = gst (gfold l) n := by simp [gfold]
def gend (s : Int × List (Int × Int)) : List (Int × Int) := if s.1 < 17179869184 then s.2 ++ [(s.1, 17179869184)] else s.2
def gaps (l : List Nd) : List (Int × Int) := if vld l then gend (gfold l) else []
theorem gst_len (s : Int × List (Int × Int)) (n : Nd) : (gst s n).2.length ≤ s.2.length + 1 := by unfold gst; simp only; split <;> simp
theorem gfold_len' (l : List Nd) : ∀ s : Int × List (Int × Int), (l.foldl gst s).2.length ≤ s.2.length + l.length := by
  induction l with
  | nil => intro s; simp
  | cons n l ih => intro s; have h1 := ih (gst s n); have h2 := gst_len s n; simp only [List.foldl_cons, List.length_cons]; omega
theorem gfold_len (l : List Nd) : (gfold l).2.length ≤ l.length := by have := gfold_len' l (0, []); simp at this; exact this
theorem gapsT : ET Try.prog 51 52 (.agg #[.int .i64 0, .int .i64 0]) 2 16 := ⟨Try.underlying51, info_parts (by kernel_rfl), rfl, by decide, by decide⟩
theorem tyG (v : Value) (h : v.oneCell' = true) : TY Try.prog 51 [v] v := TY.one' Try.underlying51 rfl (by kernel_rfl) h
theorem gcells_one (l : List (Int × Int)) : (gcells l).all Value.oneCell' = true := by
  induction l with
  | nil => rfl
  | cons p l ih => simp [gcells, Value.oneCell'] at ih ⊢
/-- the invariant between two rounds of Gaps -/
def GI (w : World) (S B : Nat) (pre : List NdK) (V : World) : Prop := ∃ v, V.heap[B]? = some (.cells #[v] 51 (0, 0)) ∧ V.heap[B + 1]? = some (.cells #[.int .i64 (gfold (pre.map (·.1))).1] 2 (0, 0))
  ∧ Own V 52 2 v (gfold (pre.map (·.1))).2.length (gcells (gfold (pre.map (·.1))).2) ∧ (∀ k, v.ownBlock = some k → w.heap.size ≤ k) ∧ w.grownBy V none ∧ S ≤ V.heap.size
def GA (S : Nat) (tm : Nat → Value → Value → Act) (x : NdK) (a : Act) (V : World) : Prop := ∃ Bs, S ≤ Bs ∧ V.heap[Bs]? = some (.cells #[.int .i64 (span x.1).1, .int .i64 (span x.1).2] 89 (0, 0)) ∧ a = tm Bs (sval2 (span x.1)) (nval x.1)
theorem Own.cellsRow {w : World} {e : TypeId} {sz : Nat} {v : Value} {n : Nat} {xs : List Value} (h : Own w e sz v n xs) {r : Nat} {o : Obj} (ho : w.heap[r]? = some o) (hc : o.isCells = false) : v.ownBlock = none ∨ v.ownBlock ≠ some r := by
  refine .inr fun hb => ?_
  obtain ⟨c, fr, hk⟩ := Own.block h hb
  rw [hk] at ho
  cases ho
  cases hc
theorem keeps_own {B : Nat} {V V' : World} {e : TypeId} {sz : Nat} {v : Value} {n : Nat} {xs : List Value} (h : Own V e sz v n xs) (g : V.grownBy V' v.ownBlock) : KeepsFrom B V V' :=
  ⟨g.size, fun k o _ hk ho => row_of g hk (fun e => by rcases Own.cellsRow h hk ho with h0 | h0 <;> simp_all)⟩
theorem Own.nd {w : World} {e : TypeId} {sz : Nat} {v : Value} {n : Nat} {xs : List Value} (h : Own w e sz v n xs) {r : Nat} {o : Obj} (ho : w.heap[r]? = some o) (hc : o.isCells = false) : some r ≠ v.ownBlock := fun e => by
  rcases Own.cellsRow h ho hc with h0 | h0 <;> simp_all
theorem GI.kn {w V V' : World} {S B : Nat} {pre : List NdK} (h : GI w S B pre V) (g : V.grownBy V' none) : GI w S B pre V' := by
  obtain ⟨v, h1, h2, h3, h4, h5, h6⟩ := h
  exact ⟨v, row_of g h1 (by simp), row_of g h2 (by simp), h3.kn g, h4, grown_trans h5 g, Nat.le_trans h6 g.size⟩
theorem GI.own {w : World} {S B : Nat} (hB : w.heap.size ≤ B) (hs : B + 2 ≤ S) : OwnFrom S (GI w S B) := fun pre X Y row ⟨v, h1, h2, h3, h4, h5, h6⟩ hg hr =>
  ⟨v, row_of hg h1 (fun e => by have := (hr _ e.symm).1; omega), row_of hg h2 (fun e => by have := (hr _ e.symm).1; omega),
    h3.kept hg (by
      cases hrow : row with
      | none => cases v.ownBlock <;> simp
      | some r => obtain ⟨_, o, ho, hc⟩ := hr r hrow; exact Own.cellsRow h3 ho hc),
    h4, grown_from h5 hg (fun r e => by have := (hr r e).1; omega), Nat.le_trans h6 hg.size⟩
theorem GA.own {S0 S : Nat} {tm : Nat → Value → Value → Act} {x : NdK} {a : Act} : OwnFrom S0 (fun (_ : Unit) V => GA S tm x a V) := fun _ X Y row ⟨Bs, h1, h2, h3⟩ hg hr =>
  ⟨Bs, h1, row_of hg h2 (fun e => by obtain ⟨_, o, ho, hc⟩ := hr _ e.symm; rw [h2] at ho; cases ho; cases hc), h3⟩
set_option maxRecDepth 100000 in
set_option maxHeartbeats 4000000 in
theorem gaps_walk (l : List NdK) (s : Value) (w : World) (hR : RdL w s l) :
    Calls Try.prog 32 #[.agg #[s]] w fun e w' => ∃ v, e = .returned v ∧ Own w' 52 2 v (gaps (l.map (·.1))).length (gcells (gaps (l.map (·.1)))) ∧ Fresh w w' v := by
  obtain ⟨ao, cap, rfl, p1, p2⟩ := hR.shape
  have HR := hid hR
  obtain ⟨gl, hgl⟩ : ∃ v, v = gaps (l.map (·.1)) := ⟨_, rfl⟩
  rw [← hgl]
  have HV := hid hgl
  obtain ⟨B0, hB0⟩ : ∃ B, B = w.heap.size := ⟨_, rfl⟩
  have HB0 := hid hB0
  obtain ⟨m, hm⟩ : ∃ m, m = l.length := ⟨_, rfl⟩
  have hm0 : m ≤ 1099511627776 := by rw [hm]; exact hR.2.2
  rw [← hm] at HR p1 ⊢
  have HM := hid hm
  have Z0 := hid (World.alloc_heap_new w (.cells #[.slice ao m cap] 34))
  have HBW := hid hR.2.1
  clear hR hgl hB0 hm
  refine (callsIn_wide (n := 4)).1 (callsIn_of_wp_marks Try.func32 rfl trivial ?_ rfl)
  simp only [Try.ntmps32, List.size_toArray, List.length_cons, List.length_nil, Nat.reduceAdd, Nat.reduceSub, Array.replicate_succ, Array.replicate_zero, List.push_toArray, List.append_toArray, List.nil_append, List.cons_append]
  refine wpIn_wide.2 ?_
  go_wp2_with fail
  refine (valid_walk l (.slice ao m cap) _ (HR.out.kn (World.grownBy_alloc _ _ _))).mono ?_
  rintro e w1 ⟨rfl, g1⟩
  have G1 := hid g1
  have c1 := g1.cell (a := ⟨w.heap.size, 0, none⟩) (v := .slice ao m cap) (by rw [cell_of_row _ _ _ _ _ _ Z0.out]; rfl) (by simp)
  have y1 := block_lt_of_cell c1
  clear g1
  by_cases hv : vld (l.map (·.1)) = true
  · have HW := hid hv
    simp only [hv]
    clear hv
    go_wp2_with fail
    refine (walk_walk ao m cap _).mono ?_
    rintro e w2 ⟨rfl, rfl⟩
    go_wp2
    obtain ⟨B, hB⟩ : ∃ B, B = w1.heap.size := ⟨_, rfl⟩
    rw [← hB]
    have HBq := hid hB
    obtain ⟨W, hW⟩ : ∃ W, W = ((w1.alloc (.cells #[.slice none 0 0] 51)).alloc (.cells #[.int .i64 0] 2)).alloc (.cells #[.slice ao m cap] 34) := ⟨_, rfl⟩
    have hw1 : w.grownBy w1 none := grown_trans (World.grownBy_alloc _ _ _) G1.out
    have hWg : w.grownBy W none := by rw [hW]; exact grown_trans (grown_trans (grown_trans hw1 (World.grownBy_alloc _ _ _)) (World.grownBy_alloc _ _ _)) (World.grownBy_alloc _ _ _)
    have hWs : W.heap.size = B + 3 := by rw [hW, HBq.out]; simp
    have b1 : W.heap[B + 1]? = some (.cells #[.int .i64 0] 2 (0, 0)) := by rw [hW, HBq.out, heap_past (by simp), heap_at (by simp)]
    have b0 : W.heap[B]? = some (.cells #[.slice none 0 0] 51 (0, 0)) := by rw [hW, HBq.out, heap_past (by simp; omega), heap_past (by simp), heap_at (by simp)]
    have b3 : W.heap[B + 2]? = some (.cells #[.slice ao m cap] 34 (0, 0)) := by rw [hW, HBq.out, heap_at (by simp)]
    rw [← hW]
    have hB0 : w.heap.size ≤ B := by rw [hB]; omega
    clear hW hB c1 y1 hw1
    have c3 : W.cell? ⟨B + 1 + 1, 0, none⟩ = some (.slice ao m cap) := by rw [cell_of_row _ _ _ _ _ _ b3]; rfl
    have hRW := HR.out.kn hWg
    have hBW := HR.out.2.1
    refine (wpIn_wide (n := 4)).1 ?_
    refine wpIn_rangeFunc_ownH (F := Fence.wide) rfl (by decide) (gf := 84) (lb := #[.pointer (some ⟨B + 1 + 1, 0, none⟩)]) rfl trivial (enters_of Try.func84 (by kernel_rfl) rfl)
      (walk1_stops 3 w.heap.size (B + 1 + 1) l (.slice ao m cap) W c3 hRW.1 hRW.2.2 hBW (by omega)) (fun h k => h.trans k)
      (fun V q o o' hq hl _ _ => (Below.refl w.heap.size V).grown (grownBy_putObj' V q o') (by have := (Array.getElem?_eq_some_iff.1 hl).1; omega) (fun k e => by cases e; omega)) (Below.refl _ _) (fun _ => rfl)
      (GI w W.heap.size B) (fun _ _ _ => False) (GI.own hB0 (by omega)) (fun c => fun _ _ _ _ h _ _ => h) ⟨_, b0, b1, World.ownsRow_nil _ _ _ _, fun k hk => (by simp [Value.ownBlock] at hk), hWg, Nat.le_refl _⟩
      (GA W.heap.size (fun Bs u v => { tmps := #[.agg #[.slice ao m cap], .pointer (some ⟨w.heap.size, 0, none⟩), .slice none 0 0, .pointer (some ⟨B, 0, none⟩), .pointer (some ⟨B + 1, 0, none⟩), .pointer (some ⟨Bs, 0, none⟩), .agg #[.slice ao m cap], .bool true, .bool false, .agg #[.slice ao m cap], .func (.func 84) #[] #[.pointer (some ⟨B + 1 + 1, 0, none⟩)], u, v, undef, undef, undef, undef, undef, undef, undef, undef, undef, undef, undef, undef, undef, undef, undef, undef, undef, undef, undef, undef, undef], defers := [] }))
      (fun x a' => GA.own) ?assign ?body ?done ?stop
    case assign =>
      intro lp pre x V K hi hK
      have HK := hid hK
      have HI := hid hi
      have hWV : W.heap.size ≤ V.heap.size := by
        obtain ⟨c, _, _, _, _, _, h5⟩ := hi
        exact h5
      have HVs := hid (show w.heap.size ≤ V.heap.size by omega)
      have HWV := hid hWV
      clear hK hi b0 b1 b3 c3 hRW hBW hWs hWg hWV
      rw [fold_two]
      simp only [List.setIfInBounds_toArray, List.set_cons_succ, List.set_cons_zero]
      refine region_in (ro := some lp) (fun ⟨_, _, h⟩ => h) (by kernel_rfl) ?_
      go_wp2_with (first
        | (refine wpList_storeTYg rfl 89 (.tmp 5) (.tmp 11) rfl rfl rfl (tyS2 (span x.1).1 (span x.1).2) (heap_at rfl) rfl ?_; intro V2 g2 h2; have G2 := hid (grown_newR (World.grownBy_alloc V _ none) g2 (Nat.le_refl _)); have H2 := hid h2; clear g2 h2)
        | fail)
      exact HK.out _ _ (keeps_none G2.out) (below_grown G2.out HVs.out (fun k e => by cases e)) (HI.out.kn G2.out) ⟨V.heap.size, HWV.out, H2.out, rfl⟩
    case body =>
      intro lp pre x a' V hle hrec hi hax hlen
      obtain ⟨gv, hg0, hg1, hg2, hg3, hg4, hg5⟩ := hi
      obtain ⟨Bs, hBs, hb, rfl⟩ := hax
      have GL := hid (gfold_len (pre.map (·.1)))
      have HLN := hid hlen
      have RS := hid (show gfold ((pre ++ [x]).map (·.1)) = gst (gfold (pre.map (·.1))) x.1 by rw [List.map_append, List.map_cons, List.map_nil, gfold_snoc])
      generalize hgf : gfold (pre.map (·.1)) = gf at *
      obtain ⟨c, og⟩ := gf
      generalize hsp : span x.1 = sp at *
      obtain ⟨sa, sb⟩ := sp
      have HSP := hid hsp
      obtain ⟨ad, cp, rfl, _⟩ := (Sl.of_own hg2).shape
      have HG0 := hid hg0
      have HG1 := hid hg1
      have HG2 := hid hg2
      have HG3 := hid hg3
      have HG4 := hid hg4
      have HG5 := hid hg5
      have HBs := hid hBs
      have HB := hid hb
      have HWS := hid hWs
      have c4 : V.cell? ⟨Bs, 0, none⟩ = some (.int .i64 sa) := by rw [cell_of_row _ _ _ _ _ _ hb]; rfl
      have c5 : V.cell? ⟨Bs, 1, none⟩ = some (.int .i64 sb) := by rw [cell_of_row _ _ _ _ _ _ hb]; rfl
      have c6 : V.cell? ⟨B + 1, 0, none⟩ = some (.int .i64 c) := by rw [cell_of_row _ _ _ _ _ _ hg1]; rfl
      have c7 : V.cell? ⟨B, 0, none⟩ = some (.slice ad og.length cp) := by rw [cell_of_row _ _ _ _ _ _ hg0]; rfl
      have y4 := block_lt_of_cell c4
      have y6 := block_lt_of_cell c6
      have y7 := block_lt_of_cell c7
      clear hg0 hg1 hg2 hg3 hg4 hg5 hBs hb hlen hle hrec b0 b1 b3 c3 hRW hBW hWs hWg hgf hsp
      refine wpIn_block ?_
      change (Code.seq _ _).wpIn (Wd (some lp)) _ _ _ _ _
      refine wpIn_seq_k' fun K1 k1 => ?_
      have HK1 := hid k1
      clear k1
      refine wpIn_seq_k' fun K2 k2 => ?_
      have HK2 := hid k2
      clear k2
      obtain ⟨UU, hUU⟩ : ∃ UU : Value, UU = sval2 (sa, sb) := ⟨_, rfl⟩
      rw [← hUU]
      clear hUU
      have hwV : w.heap.size ≤ V.heap.size := HG4.out.size
      have HF : ∀ (V4 : World) (v4 : Value) (og' : List (Int × Int)), V4.heap[B]? = some (.cells #[v4] 51 (0, 0)) → V4.heap[B + 1]? = some (.cells #[.int .i64 c] 2 (0, 0)) → V4.heap[Bs]? = some (.cells #[.int .i64 sa, .int .i64 sb] 89 (0, 0))
          → Own V4 52 2 v4 og'.length (gcells og') → (∀ k, v4.ownBlock = some k → w.heap.size ≤ k) → w.grownBy V4 none → V.heap.size ≤ V4.heap.size → KeepsFrom W.heap.size V V4 → Below w.heap.size V V4 → gst (c, og) x.1 = (sb, og') → ∀ u13 u14 u15 u16 u17 u18 u19 u20 u21 u22 u23, K1 { tmps := #[.agg #[.slice ao m cap], .pointer (some ⟨w.heap.size, 0, none⟩), .slice none 0 0, .pointer (some ⟨B, 0, none⟩), .pointer (some ⟨B + 1, 0, none⟩), .pointer (some ⟨Bs, 0, none⟩), .agg #[.slice ao m cap], .bool true, .bool false, .agg #[.slice ao m cap], .func (.func 84) #[] #[.pointer (some ⟨B + 1 + 1, 0, none⟩)], UU, nval x.1, u13, u14, u15, u16, u17, u18, u19, u20, u21, u22, u23, undef, undef, undef, undef, undef, undef, undef, undef, undef, undef], defers := [] } V4 := by
        intro V4 v4 og' f0 f1 f2 f3 f4 f5 f6 f7 f8 f9 u13 u14 u15 u16 u17 u18 u19 u20 u21 u22 u23
        have c5 : V4.cell? ⟨Bs, 1, none⟩ = some (.int .i64 sb) := by rw [cell_of_row _ _ _ _ _ _ f2]; rfl
        have F0 := hid f0
        have F1 := hid f1
        have F3 := hid f3
        have F4 := hid f4
        have F5 := hid f5
        have F7 := hid f7
        have F8 := hid f8
        have F9 := hid f9
        have y5 := block_lt_of_cell c5
        clear f0 f1 f2 f3 f4 f5 f7 f8 f9 c4 c6 c7 y4 y6 y7
        refine HK1.out _ _ ?_
        refine region_in (ro := some lp) (fun ⟨_, _, h⟩ => h) (by kernel_rfl) ?_
        go_wp2_with (first
          | (refine wpList_storeTYg rfl 2 (.tmp 4) (.tmp 25) rfl rfl rfl (tyI sb) F1.out rfl ?_; intro V2 g2 h2; have G2 := hid g2; have H2 := hid h2; clear g2 h2)
          | fail)
        have hsz := G2.out.size
        refine ⟨F7.out.trans (keeps_row G2.out F1.out), F8.out.trans (below_grown G2.out (by omega) (fun k e => by cases e; omega)), ?_⟩
        unfold GI
        rw [RS.out, F9.out]
        exact ⟨v4, row_of G2.out F0.out (by simp), H2.out, F3.out.past G2.out F1.out (by decide), F4.out, grown_newR F5.out G2.out (by omega), by have := HG5.out; omega⟩
      have hb0 : og.length + 1 ≤ 1099511627776 := by
        have h1 : og.length ≤ (pre.map (·.1)).length := GL.out
        have h2 := HLN.out
        have h3 := HM.out
        rw [List.length_map] at h1
        omega
      have HX := hid HF
      clear HF
      refine region_in (ro := some lp) (fun ⟨_, _, h⟩ => h) (by kernel_rfl) ?_
      by_cases hc : c < sa
      · have t1 : decide (c < sa) = true := decide_eq_true hc
        go_wp2
        refine HK2.out _ _ (wpIn_cond_true rfl ?_)
        refine region_in (ro := some lp) (fun ⟨_, _, h⟩ => h) (by kernel_rfl) ?_
        go_wp2_with (first
          | (refine wpList_pushH gapsT rfl (.tmp 17) (.tmp 22) rfl (.slice ad og.length cp) og.length (gcells og) rfl HG2.out [.int .i64 c, .int .i64 sa] 1 _ rfl rfl rfl rfl hb0 ?_; intro v3 w3 o3 s3; obtain ⟨ad3, cp3, rfl, _⟩ := (Sl.of_own o3).shape; have O3 := hid o3; have S3 := hid s3; have Z3 := hid (row_of s3.1 HG0.out (fun e => Own.ne HG2.out HG0.out (by decide) e.symm)); clear o3 s3)
          | (refine wpList_storeTYg rfl 51 (.tmp 3) (.tmp 23) rfl rfl rfl (tyG _ rfl) Z3.out rfl ?_; intro w4 g4 h4; have G4 := hid g4; have H4 := hid h4; clear g4 h4)
          | fail)
        have hsz := S3.out.1.size
        have hsz4 := G4.out.size
        refine HX.out w4 _ (og ++ [(c, sa)]) H4.out (row_of G4.out (row_of S3.out.1 HG1.out (fun e => Own.ne HG2.out HG1.out (by decide) e.symm)) (by simp)) (row_of G4.out (row_of S3.out.1 HB.out (fun e => Own.ne HG2.out HB.out (by decide) e.symm)) (by have := HBs.out; have := HWS.out; simp; omega))
          (by rw [gcells_snoc, List.length_append]; exact O3.out.past G4.out Z3.out (by decide)) (fun k hk => by rcases S3.out.2 k hk with h0 | h0; exact HG3.out k h0; omega) (grown_newR (grown_from HG4.out S3.out.1 (fun r e => HG3.out r e)) G4.out hB0) (by omega)
          ((keeps_own HG2.out S3.out.1).trans (keeps_row G4.out Z3.out)) ((below_grown S3.out.1 hwV (fun k e => HG3.out k e)).trans (below_grown G4.out (by omega) (fun k e => by cases e; exact hB0))) (by unfold gst; rw [HSP.out]; simp only [if_pos hc]) _ _ _ _ _ _ _ _ _ _ _
      · have t1 : decide (c < sa) = false := decide_eq_false hc
        go_wp2
        refine HK2.out _ _ (wpIn_cond_false rfl (wpIn_skip ?_))
        exact HX.out V _ og HG0.out HG1.out HB.out HG2.out HG3.out HG4.out (Nat.le_refl _) (KeepsFrom.refl _ _) (Below.refl _ _) (by unfold gst; rw [HSP.out]; simp only [if_neg (show ¬ c < sa by omega)]) _ _ _ _ _ _ _ _ _ _ _
    case done =>
      intro D xs V hD hS hI hK
      subst hS
      obtain ⟨gv, hg0, hg1, hg2, hg3, hg4, hg5⟩ := hI
      have GL := hid (gfold_len (xs.map (·.1)))
      have HZ := hid (show gl = gend (gfold (xs.map (·.1))) by rw [HV.out]; unfold gaps; rw [if_pos HW.out])
      generalize hgf : gfold (xs.map (·.1)) = gf at *
      obtain ⟨c, og⟩ := gf
      obtain ⟨ad, cp, rfl, _⟩ := (Sl.of_own hg2).shape
      have HG0 := hid hg0
      have HG1 := hid hg1
      have HG2 := hid hg2
      have HG3 := hid hg3
      have HG4 := hid hg4
      have HG5 := hid hg5
      have HWS := hid hWs
      have HKK := hid hK
      have HD := hid hD
      have c6 : V.cell? ⟨B + 1, 0, none⟩ = some (.int .i64 c) := by rw [cell_of_row _ _ _ _ _ _ hg1]; rfl
      have c7 : V.cell? ⟨B, 0, none⟩ = some (.slice ad og.length cp) := by rw [cell_of_row _ _ _ _ _ _ hg0]; rfl
      have y6 := block_lt_of_cell c6
      have y7 := block_lt_of_cell c7
      have hb0 : og.length + 1 ≤ 1099511627776 := by
        have h1 : og.length ≤ (xs.map (·.1)).length := GL.out
        have h2 := HW.out
        unfold vld at h2
        simp only [Bool.and_eq_true, decide_eq_true_eq] at h2
        omega
      clear hg0 hg1 hg2 hg3 hg4 hg5 hK hD b0 b1 b3 c3 hRW hBW hWs hWg hgf
      by_cases hc : c < 17179869184
      · have t1 : decide (c < 17179869184) = true := decide_eq_true hc
        go_wp2_with (first
          | (refine wpList_pushH gapsT rfl (.tmp 28) (.tmp 31) rfl (.slice ad og.length cp) og.length (gcells og) rfl HG2.out [.int .i64 c, .int .i64 17179869184] 1 _ rfl rfl rfl rfl hb0 ?_; intro v3 w3 o3 s3; obtain ⟨ad3, cp3, rfl, _⟩ := (Sl.of_own o3).shape; have O3 := hid o3; have S3 := hid s3; have Z3 := hid (row_of s3.1 HG0.out (fun e => Own.ne HG2.out HG0.out (by decide) e.symm)); clear o3 s3)
          | (refine wpList_storeTYg rfl 51 (.tmp 3) (.tmp 32) rfl rfl rfl (tyG _ rfl) Z3.out rfl ?_; intro w4 g4 h4; have G4 := hid g4; have H4 := hid h4; have c8 : w4.cell? ⟨B, 0, none⟩ = some (.slice ad3 (og.length + 1) cp3) := by { rw [cell_of_row _ _ _ _ _ _ h4]; rfl }; have y8 := block_lt_of_cell c8; clear g4 h4)
          | fail)
        have HKK2 := row_of G4.out (row_of S3.out.1 HKK.out (HG2.out.nd HKK.out rfl)) (by have := HD.out; have := HWS.out; simp; omega)
        refine leavesM_mark HKK2 ?_
        have GP := grownBy_putObj' w4 D (.deferred none)
        refine leavesM_fn (f := 65) (args := #[]) (by simp [go_sem]) ?_
        refine (recGaps_walk _ _).mono ?_
        rintro e u' w' ⟨rfl, rfl, rfl⟩
        have HZ2 := hid (show gl = og ++ [(c, 17179869184)] by rw [HZ.out]; unfold gend; simp only [if_pos hc])
        have OW := show Own (w4.putObj D (.deferred none)) 52 2 (.slice ad3 (og.length + 1) cp3) (og ++ [(c, 17179869184)]).length (gcells (og ++ [(c, 17179869184)])) by { rw [gcells_snoc, List.length_append]; exact (O3.out.past G4.out Z3.out (by decide)).kept GP ((O3.out.past G4.out Z3.out (by decide)).cellsRow HKK2 rfl) }
        have FR := show Fresh w (w4.putObj D (.deferred none)) (.slice ad3 (og.length + 1) cp3) from Step.fresh (grown_newR (grown_newR (grown_from HG4.out S3.out.1 (fun r e => HG3.out r e)) G4.out hB0) GP (by have := HD.out; have := HWS.out; omega)) (fun k hk => by have := HG4.out.size; rcases S3.out.2 k hk with h0 | h0; exact HG3.out k h0; omega)
        refine ⟨⟨_, rfl⟩, rfl, leavesM_nil (v := _) (by simp [results, Try.results32]) ⟨_, rfl, ?_, FR⟩⟩
        rw [HZ2.out]
        exact OW
      · have t1 : decide (c < 17179869184) = false := decide_eq_false hc
        go_wp2
        have HKK2 := HKK.out
        refine leavesM_mark HKK2 ?_
        have GP := grownBy_putObj' V D (.deferred none)
        refine leavesM_fn (f := 65) (args := #[]) (by simp [go_sem]) ?_
        refine (recGaps_walk _ _).mono ?_
        rintro e u' w' ⟨rfl, rfl, rfl⟩
        have HZ2 := hid (show gl = og by rw [HZ.out]; unfold gend; simp only [if_neg (show ¬ c < 17179869184 by omega)])
        have OW := show Own (V.putObj D (.deferred none)) 52 2 (.slice ad og.length cp) og.length (gcells og) from HG2.out.kept GP (HG2.out.cellsRow HKK2 rfl)
        have FR := show Fresh w (V.putObj D (.deferred none)) (.slice ad og.length cp) from Step.fresh (grown_newR HG4.out GP (by have := HD.out; have := HWS.out; omega)) (fun k hk => HG3.out k hk)
        refine ⟨⟨_, rfl⟩, rfl, leavesM_nil (v := _) (by simp [results, Try.results32]) ⟨_, rfl, ?_, FR⟩⟩
        rw [HZ2.out]
        exact OW
    case stop =>
      intro D c pre V hD hS hI hK
      exact hI.elim
  · have HW := hid hv
    simp only [Bool.not_eq_true] at hv
    simp only [hv]
    clear hv
    go_wp2
    refine leavesM_fn (f := 65) (args := #[]) (by simp [go_sem]) ?_
    refine (recGaps_walk _ _).mono ?_
    rintro e u' w' ⟨rfl, rfl, rfl⟩
    have HZ := hid (show gl = [] by rw [HV.out]; unfold gaps; rw [if_neg HW.out])
    refine ⟨⟨_, rfl⟩, rfl, leavesM_nil (v := .slice none 0 0) (by simp [results, Try.results32]) ⟨_, rfl, by rw [HZ.out]; exact World.ownsRow_nil _ _ _ _, Step.fresh (grown_trans (World.grownBy_alloc _ _ _) G1.out) (fun k hk => by simp [Value.ownBlock] at hk)⟩⟩
end Go.Proofs.Yteakoleceoclkaa
