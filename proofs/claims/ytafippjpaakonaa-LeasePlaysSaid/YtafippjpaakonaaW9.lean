/- Leases: slices.Insert of one element. -/
import Derived.Test.YtafippjpaakonaaW8
namespace Go.Proofs.Ytafippjpaakonaa
open Go.RowKit
set_option linter.unusedSimpArgs false
set_option linter.unusedVariables false

/-- one element in a block of its own -/
theorem sl_one {w : World} {V : Nat} {x : Ls} (h : w.heap[V]? = some (.cells (lcells x).toArray 38 (0, 0))) : Sl w 4 (.slice (some ⟨V, 0, none⟩) 1 1) 1 (lcells x) :=
  ⟨rfl, some ⟨V, 0, none⟩, 1, rfl, Nat.le_refl _, by unfold maxLen; omega, fun h => (by cases h), fun a ha => by
    obtain rfl := Option.some.inj ha
    refine ⟨rfl, fun j u hu => ?_⟩
    rw [Nat.zero_add, cellsAt h]
    exact hu⟩
theorem lcells_one (x : Ls) : ∀ v ∈ lcells x, v.oneCell' = true := by
  intro v hv
  simp [lcells] at hv
  rcases hv with rfl | rfl | rfl | rfl <;> rfl
theorem flat_one (l : List Ls) : ∀ v ∈ l.flatMap lcells, v.oneCell' = true := List.all_eq_true.1 (leases_one l)
theorem flat_take (l : List Ls) (i : Nat) (hi : i ≤ l.length) : (l.take i).flatMap lcells = (l.flatMap lcells).take (i * 4) := by
  have e : l.flatMap lcells = (l.take i).flatMap lcells ++ (l.drop i).flatMap lcells := by rw [← List.flatMap_append, List.take_append_drop]
  rw [e, List.take_left' (by rw [lcells_len, List.length_take]; omega)]
theorem flat_drop (l : List Ls) (i : Nat) (hi : i ≤ l.length) : (l.drop i).flatMap lcells = (l.flatMap lcells).drop (i * 4) := by
  have e : l.flatMap lcells = (l.take i).flatMap lcells ++ (l.drop i).flatMap lcells := by rw [← List.flatMap_append, List.take_append_drop]
  rw [e, List.drop_left' (by rw [lcells_len, List.length_take]; omega)]
/-- a block whose middle was written twice -/
theorem twice1 {α : Type} (C X Y : List α) (a : Nat) (hC : a + X.length + Y.length ≤ C.length) :
    ((C.take a ++ (X ++ C.drop (a + X.length))).take (a + X.length) ++ (Y ++ (C.take a ++ (X ++ C.drop (a + X.length))).drop (a + X.length + Y.length))).take (a + X.length + Y.length) = C.take a ++ (X ++ Y) := by
  have h1 : (C.take a).length = a := by rw [List.length_take]; omega
  have h2 : (C.take a ++ (X ++ C.drop (a + X.length))).take (a + X.length) = C.take a ++ X := by
    rw [← List.append_assoc, List.take_left' (by rw [List.length_append, h1])]
  rw [h2, ← List.append_assoc, List.take_left' (by simp only [List.length_append, h1]), List.append_assoc]
theorem twice2 {α : Type} (C X Y : List α) (a : Nat) (hC : a + X.length + Y.length ≤ C.length) :
    ((C.take (a + X.length) ++ (Y ++ C.drop (a + X.length + Y.length))).take a ++ (X ++ (C.take (a + X.length) ++ (Y ++ C.drop (a + X.length + Y.length))).drop (a + X.length))).take (a + X.length + Y.length) = C.take a ++ (X ++ Y) := by
  have h1 : (C.take a).length = a := by rw [List.length_take]; omega
  have h3 : (C.take (a + X.length)).length = a + X.length := by rw [List.length_take]; omega
  have h2 : (C.take (a + X.length) ++ (Y ++ C.drop (a + X.length + Y.length))).take a = C.take a := by
    rw [List.take_append_of_le_length (by omega), List.take_take, Nat.min_eq_left (by omega)]
  have h4 : (C.take (a + X.length) ++ (Y ++ C.drop (a + X.length + Y.length))).drop (a + X.length) = Y ++ C.drop (a + X.length + Y.length) := List.drop_left' h3
  rw [h2, h4, ← List.append_assoc, ← List.append_assoc, List.take_left' (by simp only [List.length_append, h1]), List.append_assoc]
theorem ins_cells (l : List Ls) (x : Ls) (i : Nat) (hi : i ≤ l.length) : (l.take i ++ x :: l.drop i).flatMap lcells = (l.flatMap lcells).take (i * 4) ++ (lcells x ++ (l.flatMap lcells).drop (i * 4)) := by
  rw [List.flatMap_append, List.flatMap_cons, flat_take l i hi, flat_drop l i hi]

set_option maxRecDepth 100000 in
set_option maxHeartbeats 2000000 in
theorem insert_end_walk (l : List Ls) (x : Ls) (s : Value) (V : Nat) (w : World) (hown : Own w 38 4 s l.length (l.flatMap lcells)) (hv : w.heap[V]? = some (.cells (lcells x).toArray 38 (0, 0))) (hn : l.length ≤ 1000000) :
    Calls Try.prog 30 #[s, .int .i64 (l.length : Nat), .slice (some ⟨V, 0, none⟩) 1 1] w fun e w' => ∃ v', e = .returned v' ∧ Own w' 38 4 v' (l.length + 1) ((l ++ [x]).flatMap lcells) ∧ Step w s w' v' := by
  have hx := sl_one hv
  have HX := hid hx
  have HO := hid hown
  have hflat : (l ++ [x]).flatMap lcells = l.flatMap lcells ++ lcells x := by simp
  have HF := hid hflat
  have z1 : (0 : Int) ≤ (l.length : Int) := by omega
  obtain ⟨ao, cap, rfl, hc1, hc2⟩ := (Sl.of_own hown).shape
  have z2 : (l.length : Int) ≤ (cap : Int) := by omega
  clear hx hown hv hflat
  by_cases hci : cap = l.length
  · subst hci
    go_enter Try.func30, Try.ntmps30
    go_wp2_with (first | (at_builtin; refine wpList_app leaseT rfl (.tmp 23) (.tmp 24) rfl _ _ _ rfl HO.out _ _ _ rfl HX.out (List.all_eq_true.2 (lcells_one x)) (by omega) ?_; intro v5 w5 h5 g5; have H5 := hid h5; have G5 := hid g5; clear h5 g5) | fail)
    go_ret
    exact ⟨_, rfl, by rw [HF.out]; exact H5.out, G5.out⟩
  · go_enter Try.func30, Try.ntmps30
    go_wp2_with (first | (at_builtin; refine wpList_app leaseT rfl (.tmp 23) (.tmp 24) rfl _ _ _ rfl HO.out _ _ _ rfl HX.out (List.all_eq_true.2 (lcells_one x)) (by omega) ?_; intro v5 w5 h5 g5; have H5 := hid h5; have G5 := hid g5; clear h5 g5) | fail)
    go_ret
    exact ⟨_, rfl, by rw [HF.out]; exact H5.out, G5.out⟩

set_option maxRecDepth 100000 in
set_option maxHeartbeats 2000000 in
/-- there is room -/
theorem insert_room_walk (l : List Ls) (x : Ls) (i g cap V : Nat) (w : World) (hown : Own w 38 4 (.slice (some ⟨g, 0, none⟩) l.length cap) l.length (l.flatMap lcells)) (hv : w.heap[V]? = some (.cells (lcells x).toArray 38 (0, 0))) (hne : g ≠ V) (hi : i < l.length) (hroom : l.length + 1 ≤ cap) (hn : l.length ≤ 1000000) :
    Calls Try.prog 30 #[.slice (some ⟨g, 0, none⟩) l.length cap, .int .i64 i, .slice (some ⟨V, 0, none⟩) 1 1] w fun e w' => ∃ v', e = .returned v' ∧ Own w' 38 4 v' (l.length + 1) ((l.take i ++ x :: l.drop i).flatMap lcells) ∧ Step w (.slice (some ⟨g, 0, none⟩) l.length cap) w' v' := by
  obtain ⟨C, hb, hnc, hcm, hCl, hCt⟩ := hown.blk
  have hcm : cap ≤ 9223372036854775807 := hcm
  have hX4 : (lcells x).length = 4 := rfl
  have hYl : ((l.flatMap lcells).drop (i * 4)).length = (l.length - i) * 4 := by rw [List.length_drop, lcells_len]; omega
  have hov : ∀ lb cb, (callFunc 46 #[.slice (some ⟨V, 0, none⟩) 1 1, .slice (some ⟨g, (i + 1) * 4, none⟩) lb cb]).run Try.prog w = .ok (.value (.bool false)) w := fun lb cb => by
    rw [run_callFunc_extern Try.func46 (by kernel_rfl) (by kernel_rfl) (by kernel_rfl) (e := Extern.SlicesOverlaps.overlaps #[22, 22] #[4]) (by kernel_rfl),
      Lib.run_overlaps_apart w 22 4 38 Try.underlying22 4 (fun w => by kernel_rfl) ⟨V, 0, none⟩ ⟨g, (i + 1) * 4, none⟩ 1 1 lb cb (fun e => hne e.symm) 38 38 4 C.length (by simp [World.shape?, hv, lcells]) (by simp [World.shape?, hb]) (by omega) (frozen_of_row _ _ _ _ _ hv) (frozen_of_row _ _ _ _ _ hv)]
    rfl
  obtain ⟨w2, hr2, hg2, hb2⟩ := run_copy_blk (P := Try.prog) w.drew 22 22 3 38 4 g ((i + 1) * 4) (l.length - i) (cap - (i + 1)) ⟨g, i * 4, none⟩ (l.length + 1 - i) (cap - i) ((l.flatMap lcells).drop (i * 4)) C Try.underlying22 (by kernel_rfl)
    (by rw [hYl, show Nat.min (l.length + 1 - i) (l.length - i) = l.length - i by simp [Nat.min_def]; omega])
    (fun j v hj => by
      rw [Addr.add_lit]
      have h3 : w.cell? ⟨g, i * 4 + j, none⟩ = some v := by
        have hjl := (List.getElem?_eq_some_iff.1 hj).1
        rw [hYl] at hjl
        rw [List.getElem?_drop, ← hCt, List.getElem?_take, if_pos (by omega)] at hj
        rw [cellsAt hb, hj]
      exact h3) hb (by rw [hYl, hCl]; omega) (fun v hv => flat_one l v (List.mem_of_mem_drop hv))
  have hv2 : w2.heap[V]? = some (.cells (lcells x).toArray 38 (0, 0)) := row_of hg2 hv (by simp; omega)
  obtain ⟨w3, hr3, hg3, hb3⟩ := run_copy_blk (P := Try.prog) w2 22 22 3 38 4 g (i * 4) (l.length + 1 - i) (cap - i) ⟨V, 0, none⟩ 1 1 (lcells x) _ Try.underlying22 (by kernel_rfl)
    (by rw [hX4, show Nat.min 1 (l.length + 1 - i) = 1 by simp [Nat.min_def]; omega])
    (fun j v hj => by rw [Addr.add_lit, Nat.zero_add, cellsAt hv2]; exact hj) hb2 (by simp only [List.length_append, List.length_take, List.length_drop, hX4, hYl]; omega) (lcells_one x)
  have e1 : Nat.min (l.length + 1 - i) (l.length - i) = l.length - i := by simp [Nat.min_def]; omega
  have e2 : Nat.min 1 (l.length + 1 - i) = 1 := by simp [Nat.min_def]; omega
  rw [e1] at hr2
  rw [e2] at hr3
  have ho : Own w3 38 4 (.slice (some ⟨g, 0, none⟩) (l.length + 1) cap) (l.length + 1) ((l.take i ++ x :: l.drop i).flatMap lcells) := by
    refine Own.mk' hb3 hroom hcm (by simp only [List.length_append, List.length_take, List.length_drop, hX4, hYl]; omega) ?_
    rw [ins_cells l x i (by omega)]
    have ht := twice2 C (lcells x) ((l.flatMap lcells).drop (i * 4)) (i * 4) (by rw [hX4, hYl]; omega)
    rw [hX4, hYl, show i * 4 + 4 + (l.length - i) * 4 = (l.length + 1) * 4 by omega] at ht
    rw [hX4, hYl, show (i + 1) * 4 = i * 4 + 4 by omega, ← hCt] at *
    rw [List.take_take, Nat.min_eq_left (by omega), show i * 4 + 4 + (l.length - i) * 4 = (l.length + 1) * 4 by omega]
    exact ht
  have HR2 := hid hr2
  have HR3 := hid hr3
  have HOV := hid hov
  have O3 := hid ho
  have G3 := hid (grown_trans (grown_trans (grown_none (row := some g) (grown_drew w)) hg2) hg3)
  have z1 : (0 : Int) ≤ (i : Int) := by omega
  have z2 : (i : Int) ≤ (l.length : Int) := by omega
  have z3 : ¬ ((i : Int) = (l.length : Int)) := by omega
  have z4 : ¬ ((cap : Int) < (l.length : Int) + 1) := by omega
  have z5 : ¬ (cap = i) := by omega
  have z6 : ¬ (cap = i + 1) := by omega
  have z7 : (l.length : Int) + 1 ≤ (cap : Int) := by omega
  have z8 : (i : Int) + 1 ≤ (l.length : Int) + 1 := by omega
  have z9 : l.length + 1 - (i + 1) = l.length - i := by omega
  have y1 : (l.length : Int) ≤ (cap : Int) := by omega
  have y2 : (i : Int) ≤ (l.length : Int) + 1 := by omega
  have y3 : ((l.length : Int) + 1).toNat = l.length + 1 := by omega
  have y4 : ((i : Int) + 1).toNat = i + 1 := by omega
  have y5 : (0 : Int) ≤ (i : Int) + 1 := by omega
  have y6 : (0 : Int) ≤ (l.length : Int) + 1 := by omega
  have y7 : IntKind.i64.wrap ((i : Int) + 1) = (i : Int) + 1 := by rw [IntKind.wrap_i64]; omega
  clear hown hv hb hnc hCl hCt hX4 hYl hov hr2 hg2 hb2 hv2 hr3 hg3 hb3 e1 e2 ho
  go_enter Try.func30, Try.ntmps30
  go_wp2_with (simp only [HOV.out])
  go_region_law (first | (refine step_copyR rfl (.tmp 73) (.tmp 76) 22 22 rfl _ _ (by simp [Act.eval, Act.put]) (by simp [Act.eval, Act.put]) HR2.out ?_) | fail)
  all_goals
    go_wp2_with (first | (at_builtin; refine wpList_copyR rfl (.tmp 80) (.tmp 81) 22 22 rfl _ _ rfl rfl HR3.out ?_) | (refine wpList_copyR rfl (.tmp 80) (.tmp 81) 22 22 rfl _ _ rfl rfl HR3.out ?_) | fail)
    go_ret
    exact ⟨_, rfl, O3.out, G3.out, fun k hk => .inl hk⟩

set_option maxRecDepth 100000 in
set_option maxHeartbeats 2000000 in
/-- there is no room -/
theorem insert_grow_walk (l : List Ls) (x : Ls) (i g cap V : Nat) (w : World) (hown : Own w 38 4 (.slice (some ⟨g, 0, none⟩) l.length cap) l.length (l.flatMap lcells)) (hv : w.heap[V]? = some (.cells (lcells x).toArray 38 (0, 0))) (hi : i < l.length) (hroom : cap < l.length + 1) (hn : l.length ≤ 1000000) :
    Calls Try.prog 30 #[.slice (some ⟨g, 0, none⟩) l.length cap, .int .i64 i, .slice (some ⟨V, 0, none⟩) 1 1] w fun e w' => ∃ v', e = .returned v' ∧ Own w' 38 4 v' (l.length + 1) ((l.take i ++ x :: l.drop i).flatMap lcells) ∧ Step w (.slice (some ⟨g, 0, none⟩) l.length cap) w' v' := by
  obtain ⟨C, hb, hnc, hcm, hCl, hCt⟩ := hown.blk
  obtain rfl : cap = l.length := by omega
  have hX4 : (lcells x).length = 4 := rfl
  have hYl : ((l.flatMap lcells).drop (i * 4)).length = (l.length - i) * 4 := by rw [List.length_drop, lcells_len]; omega
  obtain ⟨i0, hi0, hz0, hzs, hzb⟩ := leaseT.inf
  have hold : (Builtin.firstCells i0.size i (.slice (some ⟨g, 0, none⟩) i l.length)).run Try.prog w.drew = .ok ((l.flatMap lcells).take (i * 4)).toArray w.drew := by
    rw [hzs]
    exact run_firstCells_some w.drew 4 i ⟨g, 0, none⟩ i l.length ((l.flatMap lcells).take (i * 4)) (by rw [List.length_take, lcells_len]; omega) (fun j v hj => by
      rw [Addr.add_lit, Nat.zero_add]
      have h3 : w.cell? ⟨g, j, none⟩ = some v := by
        have hjl := (List.getElem?_eq_some_iff.1 hj).1
        rw [List.length_take, lcells_len] at hjl
        rw [List.getElem?_take, if_pos (by omega), ← hCt, List.getElem?_take, if_pos (by omega)] at hj
        rw [cellsAt hb, hj]
      exact h3)
  have hrz := Lib.run_append_grow_zeros w 22 3 22 38 i0 _ .i64 .i64 Try.underlying22 Try.underlying3 hi0 hz0 (some ⟨g, 0, none⟩) i l.length ((l.flatMap lcells).take (i * 4)) hold (l.length + 1 - i) (by omega) (by omega) (by omega) (by omega) (by rw [hzb]; omega) (by rw [hzb, show i + (l.length + 1 - i) = l.length + 1 by omega]; exact growslice_fits (by omega) (by omega))
  rw [show i + (l.length + 1 - i) = l.length + 1 by omega] at hrz
  have hGge : l.length + 1 ≤ grownCap w (l.length + 1) l.length 38 := grownCap_ge w _ _ _
  have hGle : grownCap w (l.length + 1) l.length 38 ≤ maxLen := grownCap_le_maxLen w _ _ _ (by unfold maxLen; omega)
  generalize hG : grownCap w (l.length + 1) l.length 38 = G at *
  obtain ⟨R, hR⟩ : ∃ R : List Value, R = ((l.flatMap lcells).take (i * 4)) ++ (Builtin.zeroCells (Value.agg #[.int .i64 0, .int .i64 0, .int .i64 0, .int .i64 0]).cells (l.length + 1 - i)).toList ++ (Builtin.zeroCells (Value.agg #[.int .i64 0, .int .i64 0, .int .i64 0, .int .i64 0]).cells (G - (l.length + 1))).toList := ⟨_, rfl⟩
  have hRa : ((l.flatMap lcells).take (i * 4)).toArray ++ Builtin.zeroCells (Value.agg #[.int .i64 0, .int .i64 0, .int .i64 0, .int .i64 0]).cells (l.length + 1 - i) ++ Builtin.zeroCells (Value.agg #[.int .i64 0, .int .i64 0, .int .i64 0, .int .i64 0]).cells (G - (l.length + 1)) = R.toArray := by
    rw [hR]
    apply Array.ext'
    simp
  rw [hRa] at hrz
  have hzl : ∀ k, (Builtin.zeroCells (Value.agg #[.int .i64 0, .int .i64 0, .int .i64 0, .int .i64 0]).cells k).toList.length = k * 4 := fun k => by simp [Builtin.zeroCells, Value.cells]
  have hRl : R.length = G * 4 := by rw [hR, List.length_append, List.length_append, hzl, hzl, List.length_take, lcells_len]; omega
  have hRt : R.take (i * 4) = (l.flatMap lcells).take (i * 4) := by rw [hR, List.append_assoc, List.take_left' (by rw [List.length_take, lcells_len]; omega)]
  have hgw : g < w.heap.size := (Array.getElem?_eq_some_iff.1 hb).1
  have hVw : V < w.heap.size := (Array.getElem?_eq_some_iff.1 hv).1
  have gW := grown_trans (grown_drew w) (World.grownBy_alloc w.drew (.cells R.toArray 38) none)
  have hbN : (w.drew.alloc (.cells R.toArray 38)).heap[w.heap.size]? = some (.cells R.toArray 38 (0, 0)) := heap_at rfl
  have hvW := row_of gW hv (by simp)
  have hbW := row_of gW hb (by simp)
  generalize w.drew.alloc (.cells R.toArray 38) = W1 at *
  obtain ⟨w2, hr2, hg2, hb2⟩ := run_copy_blk (P := Try.prog) W1 22 22 3 38 4 w.heap.size (i * 4) (l.length + 1 - i) (G - i) ⟨V, 0, none⟩ 1 1 (lcells x) R Try.underlying22 (by kernel_rfl)
    (by rw [hX4, show Nat.min 1 (l.length + 1 - i) = 1 by simp [Nat.min_def]; omega])
    (fun j v hj => by rw [Addr.add_lit, Nat.zero_add, cellsAt hvW]; exact hj) hbN (by rw [hX4, hRl]; omega) (lcells_one x)
  have hb2g := row_of hg2 hbW (by simp; omega)
  obtain ⟨w3, hr3, hg3, hb3⟩ := run_copy_blk (P := Try.prog) w2.drew 22 22 3 38 4 w.heap.size ((i + 1) * 4) (l.length - i) (G - (i + 1)) ⟨g, i * 4, none⟩ (l.length - i) (l.length - i) ((l.flatMap lcells).drop (i * 4)) _ Try.underlying22 (by kernel_rfl)
    (by rw [hYl, show Nat.min (l.length - i) (l.length - i) = l.length - i by simp [Nat.min_def]])
    (fun j v hj => by
      rw [Addr.add_lit]
      have h3 : w2.cell? ⟨g, i * 4 + j, none⟩ = some v := by
        have hjl := (List.getElem?_eq_some_iff.1 hj).1
        rw [hYl] at hjl
        rw [List.getElem?_drop, ← hCt, List.getElem?_take, if_pos (by omega)] at hj
        rw [cellsAt hb2g, hj]
      exact h3) hb2 (by simp only [List.length_append, List.length_take, List.length_drop, hX4, hYl, hRl]; omega) (fun v hv => flat_one l v (List.mem_of_mem_drop hv))
  have e1 : Nat.min (l.length - i) (l.length - i) = l.length - i := by simp [Nat.min_def]
  have e2 : Nat.min 1 (l.length + 1 - i) = 1 := by simp [Nat.min_def]; omega
  rw [e1] at hr3
  rw [e2] at hr2
  have ho : Own w3 38 4 (.slice (some ⟨w.heap.size, 0, none⟩) (l.length + 1) G) (l.length + 1) ((l.take i ++ x :: l.drop i).flatMap lcells) := by
    refine Own.mk' hb3 hGge hGle (by simp only [List.length_append, List.length_take, List.length_drop, hX4, hYl, hRl]; omega) ?_
    rw [ins_cells l x i (by omega), ← hRt]
    have ht := twice1 R (lcells x) ((l.flatMap lcells).drop (i * 4)) (i * 4) (by rw [hX4, hYl, hRl]; omega)
    rw [hX4, hYl, show i * 4 + 4 + (l.length - i) * 4 = (l.length + 1) * 4 by omega] at ht
    rw [hX4, hYl, show (i + 1) * 4 = i * 4 + 4 by omega, show i * 4 + 4 + (l.length - i) * 4 = (l.length + 1) * 4 by omega]
    exact ht
  have hkk : (((l.length + 1 - i : Nat) : Nat) : Int) = (l.length : Int) + 1 - (i : Int) := by omega
  rw [hkk] at hrz
  have HRZ := hid hrz
  have HR2 := hid hr2
  have HR3 := hid hr3
  have O3 := hid ho
  have G3 := hid (grown_newR (grown_newR gW hg2 (Nat.le_refl _)) (show w2.grownBy w3 (some w.heap.size) from ⟨hg3.os, hg3.tape, hg3.output, hg3.size, hg3.block⟩) (Nat.le_refl _))
  have z1 : (0 : Int) ≤ (i : Int) := by omega
  have z2 : (i : Int) ≤ (l.length : Int) := by omega
  have z3 : ¬ ((i : Int) = (l.length : Int)) := by omega
  have z4 : (l.length : Int) < (l.length : Int) + 1 := by omega
  have z5 : ¬ (l.length = i) := by omega
  have z6 : ¬ (G = i + 1) := by omega
  have z7 : ¬ (G = i) := by omega
  have z8 : (i : Int) + 1 ≤ (l.length : Int) + 1 := by omega
  have z9 : l.length + 1 - (i + 1) = l.length - i := by omega
  have y2 : (i : Int) ≤ (l.length : Int) + 1 := by omega
  have y4 : ((i : Int) + 1).toNat = i + 1 := by omega
  have y5 : (0 : Int) ≤ (i : Int) + 1 := by omega
  have y6 : (0 : Int) ≤ (l.length : Int) + 1 := by omega
  have y7 : IntKind.i64.wrap ((i : Int) + 1) = (i : Int) + 1 := by rw [IntKind.wrap_i64]; omega
  clear hown hv hb hCl hCt hX4 hYl hi0 hz0 hzs hzb hold hrz hGge hGle hG hR hRa hzl hRl hRt gW hbN hvW hbW hr2 hg2 hb2 hb2g hr3 hg3 hb3 e1 e2 ho hkk hroom hnc hcm
  go_enter Try.func30, Try.ntmps30
  go_wp2_with (first | (at_builtin; refine wpList_appR rfl (.tmp 34) (.tmp 39) 22 3 rfl _ _ rfl rfl HRZ.out ?_) | (refine wpList_copyR rfl (.tmp 43) (.tmp 44) 22 22 rfl _ _ rfl rfl HR2.out ?_) | fail)
  go_region_law (first | (refine step_copyR rfl (.tmp 50) (.tmp 53) 22 22 rfl _ _ (by simp [Act.eval, Act.put]) (by simp [Act.eval, Act.put]) HR3.out ?_) | fail)
  all_goals
    go_wp2
    go_ret
    exact ⟨_, rfl, O3.out, grown_none G3.out, fun k hk => .inr (by simp [Value.ownBlock] at hk; omega)⟩

/-- slices.Insert of one element that lies in a block of its own -/
theorem insert_walk (l : List Ls) (x : Ls) (i V : Nat) (s : Value) (w : World) (hown : Own w 38 4 s l.length (l.flatMap lcells)) (hv : w.heap[V]? = some (.cells (lcells x).toArray 38 (0, 0))) (hne : s.ownBlock ≠ some V) (hi : i ≤ l.length) (hn : l.length ≤ 1000000) :
    Calls Try.prog 30 #[s, .int .i64 i, .slice (some ⟨V, 0, none⟩) 1 1] w fun e w' => ∃ v', e = .returned v' ∧ Own w' 38 4 v' (l.length + 1) ((l.take i ++ x :: l.drop i).flatMap lcells) ∧ Step w s w' v' := by
  by_cases hil : i < l.length
  · obtain ⟨g, cap, rfl⟩ := hown.shp (by omega)
    by_cases hr : l.length + 1 ≤ cap
    · exact insert_room_walk l x i g cap V w hown hv (fun e => hne (by rw [e]; rfl)) hil hr hn
    · exact insert_grow_walk l x i g cap V w hown hv hil (by omega) hn
  · obtain rfl : i = l.length := by omega
    rw [List.take_length, List.drop_length]
    exact insert_end_walk l x s V w hown hv hn
end Go.Proofs.Ytafippjpaakonaa
