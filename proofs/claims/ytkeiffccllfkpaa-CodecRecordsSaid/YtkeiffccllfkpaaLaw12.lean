/- The law CodecRecords: the walk. -/
import Derived.Test.YtkeiffccllfkpaaL12r
import Derived.Test.YtkeiffccllfkpaaLaw6
namespace Go.Proofs.Ytkeiffccllfkpaa
open Go.RowKit

theorem encRec_byte (x : Rec) : ∀ b ∈ encRec x, b < 256 := app_byte (encRow_byte _) (app_byte (flat_byte fun n _ => enc_byte n) (fun b hb => enc_byte _ b hb))
set_option maxRecDepth 100000 in
set_option maxHeartbeats 1000000 in
theorem codecRecords_walk (r q rest : Value) (x : Rec) (ys : List Nat) (w : World) (hr : Sl w 3 r x.row.length (x.row.flatMap vcells)) (hrl : Lo r w.heap.size) (hq : Sl w 1 q x.seq.length (x.seq.map (Value.int .i64))) (hql : Lo q w.heap.size) (hs : ∀ n ∈ x.seq, I64 n) (hd : I64 x.day)
    (hrest : Sl w 1 rest ys.length (bv ys)) (hrsl : Lo rest w.heap.size) (hy : ∀ y ∈ ys, y < 256) :
    Calls Try.prog 12 #[.agg #[r, q, .int .i64 x.day], rest] w fun e w' => e = .returned (.bool true) ∧ w.grownBy w' none := by
  obtain ⟨ao, cap, rfl, hnc, hcm⟩ := hr.shape
  obtain ⟨ao2, cap2, rfl, hnc2, hcm2⟩ := hq.shape
  obtain ⟨ao3, cap3, rfl, hnc3, hcm3⟩ := hrest.shape
  have HS := hid (And.intro hr hrl)
  have HQ := hid (And.intro hq hql)
  have HN := hid (And.intro hs hd)
  have HR := hid (And.intro hrest hrsl)
  have HY := hid hy
  clear hr hrl hq hql hs hd hrest hrsl hy
  by_cases h1 : ¬ x.row.length ≤ 16
  · have d1 : decide (x.row.length ≤ 16) = false := decide_eq_false h1
    go_enter Try.func12, Try.ntmps12
    go_wp2_with fail
    refine (short_walk _ _ _ _ (HS.out.1.kn (World.grownBy_alloc _ _ _))).mono ?_
    rintro e w' ⟨rfl, rfl⟩
    go_wp2_with (go_at_call 18; refine (awake_walk _).mono ?_; rintro e w' ⟨rfl, hg⟩)
    go_ret
    exact ⟨rfl, grown_trans (World.grownBy_alloc _ _ _) hg⟩
  have h1 : x.row.length ≤ 16 := by omega
  have d1 : decide (x.row.length ≤ 16) = true := decide_eq_true h1
  by_cases h2 : 40 < x.seq.length
  · have d2 : decide (40 < x.seq.length) = true := decide_eq_true h2
    go_enter Try.func12, Try.ntmps12
    go_wp2_with fail
    refine (short_walk _ _ _ _ (HS.out.1.kn (World.grownBy_alloc _ _ _))).mono ?_
    rintro e w' ⟨rfl, rfl⟩
    go_wp2_with (go_at_call 18; refine (awake_walk _).mono ?_; rintro e w' ⟨rfl, hg⟩)
    go_ret
    exact ⟨rfl, grown_trans (World.grownBy_alloc _ _ _) hg⟩
  have d2 : decide (40 < x.seq.length) = false := decide_eq_false h2
  by_cases h3 : 100 < ys.length
  · have d3 : decide (100 < ys.length) = true := decide_eq_true h3
    go_enter Try.func12, Try.ntmps12
    go_wp2_with fail
    refine (short_walk _ _ _ _ (HS.out.1.kn (World.grownBy_alloc _ _ _))).mono ?_
    rintro e w' ⟨rfl, rfl⟩
    go_wp2_with (go_at_call 18; refine (awake_walk _).mono ?_; rintro e w' ⟨rfl, hg⟩)
    go_ret
    exact ⟨rfl, grown_trans (World.grownBy_alloc _ _ _) hg⟩
  have d3 : decide (100 < ys.length) = false := decide_eq_false h3
  have HLN := hid (fun (k : Nat) (hk : k < (fit x.row.length x.seq).length) => List.take_succ_eq_append_getElem hk)
  have hfl := hid (fit_length x.row.length x.seq)
  go_enter Try.func12, Try.ntmps12
  go_wp2_with fail
  refine (short_walk _ _ _ _ (HS.out.1.kn (World.grownBy_alloc _ _ _))).mono ?_
  rintro e w' ⟨rfl, rfl⟩
  go_wp2_with fail
  have ga := World.grownBy_alloc w (.cells #[.slice ao x.row.length cap, .slice ao2 x.seq.length cap2, .int .i64 x.day] 95) none
  have hX : (w.alloc (.cells #[.slice ao x.row.length cap, .slice ao2 x.seq.length cap2, .int .i64 x.day] 95)).heap[w.heap.size]? = some (.cells #[.slice ao x.row.length cap, .slice ao2 x.seq.length cap2, .int .i64 x.day] 95 (0, 0)) := heap_at rfl
  have hz : (w.alloc (.cells #[.slice ao x.row.length cap, .slice ao2 x.seq.length cap2, .int .i64 x.day] 95)).heap.size = w.heap.size + 1 := by simp
  generalize w.alloc (.cells #[.slice ao x.row.length cap, .slice ao2 x.seq.length cap2, .int .i64 x.day] 95) = W at *
  have GA := hid ga
  have HX := hid hX
  have HZ := hid hz
  clear ga hX hz
  refine region_last mixed (c12aL x.row ao cap w.heap.size (w.heap.size + 1) x.day) _ (c12a_reg _) (c12a_lb _) (c12a_m _) ?_ ?_ (c12a_ob _ x.row ao cap w.heap.size (w.heap.size + 1) x.day _ hnc hcm _ HX.out ((DRow.of HS.out.1 HS.out.2).grown GA.out |>.mono GA.out.size) (by omega) (by rw [HZ.out]; exact Nat.le_refl _)) ?_
  · rfl
  · exact ⟨.inr trivial, .inr trivial, .inr rfl, .inr trivial, .inr trivial, .inl rfl, .inr trivial, .inr trivial, .inr trivial, .inr trivial, .inr trivial, .inr trivial, .inr trivial, .inr trivial, .inr trivial, .inr trivial, .inr trivial, .inr trivial, .inr trivial, .inr trivial, .inr trivial, .inr trivial, .inr trivial, .inr trivial, .inr trivial, .inr trivial, .inr trivial, .inr trivial, .inl rfl, .inl rfl, .inl rfl, .inl rfl, .inl rfl, .inl rfl, .inr trivial, .inr trivial, .inr trivial, .inr trivial, .inr trivial, .inr trivial, .inr trivial, .inr trivial, .inr trivial, .inr trivial, .inr trivial, .inr trivial, .inr trivial, .inr trivial, .inr trivial, .inr trivial, .inr trivial, .inr trivial, .inr trivial, .inr trivial, .inr trivial, .inr trivial, .inr trivial, .inr trivial, .inr trivial, .inr trivial, .inr trivial, .inr trivial, .inr trivial, .inr trivial, .inr trivial, .inr trivial, .inr trivial, .inr trivial, .inr trivial, .inr trivial, .inr trivial, .inr trivial, .inr trivial, .inr trivial, .inr trivial, .inr trivial, .inr trivial, .inr trivial, .inr trivial, .inr trivial, .inr trivial, .inr trivial, .inr trivial, .inr trivial, .inr trivial, .inr trivial, .inr trivial, .inr trivial, .inr trivial, .inr trivial, .inr trivial, .inr trivial, trivial⟩
  intro x3 w3 hg3 hk3
  obtain ⟨A, hA1, hA2, hA3⟩ := hk3 5 (by show 5 < 92; decide)
  obtain ⟨r3, hr1, hr2⟩ := hk3 33 (by show 33 < 92; decide)
  have hA1 : x3 5 = .pointer (some ⟨A, 0, none⟩) := hA1
  have hr1 : x3 33 = .agg #[r3, .slice none 0 0, .int .i64 x.day] := hr1
  simp only [frameOf, Bool.false_eq_true, if_false, if_true]
  rw [hA1, hr1]
  have G3 := hid (grown_trans GA.out hg3)
  have X3 := hid (row_of hg3 HX.out (by simp))
  have R3 := hid hr2
  have A3 := hid hA3
  clear hk3 hA1 hr1 hg3 hr2 hA3
  refine wpList_storeTYg rfl 95 (.tmp 5) (.tmp 33) rfl rfl rfl (tyRec r3 _ x.day (oneCell_sl (Sl.of_own R3.out)) rfl) A3.out rfl ?_
  intro w4 hg4 hb4
  have G4 := hid (grown_newR G3.out hg4 (by omega))
  have X4 := hid (row_of hg4 X3.out (by simp; omega))
  have R4 := hid (Own.past R3.out hg4 A3.out (by decide))
  have A4 := hid hb4
  have hAw : w.heap.size < A := by omega
  clear hg4 hb4
  show wpList _ _ _ [] _ _
  go_wp2
  go_loopw [6] (fun i wr => ∃ (k : Nat) (q5 : Value), k ≤ x.row.length ∧ i = .int .i64 k ∧ wr.heap[A]? = some (.cells #[r3, q5, .int .i64 x.day] 95 (0, 0)) ∧ Own wr 3 1 q5 k (((fit x.row.length x.seq).take k).map (Value.int .i64)) ∧ Own wr 67 3 r3 (x.row.map V.clean).length ((x.row.map V.clean).flatMap vcells) ∧ wr.heap[w.heap.size]? = some (.cells #[.slice ao x.row.length cap, .slice ao2 x.seq.length cap2, .int .i64 x.day] 95 (0, 0)) ∧ Fresh w wr q5) (fun i _ => x.row.length - (intOf i).toNat)
  case atStart => exact ⟨0, _, Nat.zero_le _, rfl, A4.out, Own.nil _ _ _, R4.out, X4.out, ⟨G4.out, fun k hk => by simp [Value.ownBlock] at hk⟩⟩
  case round =>
    obtain ⟨k, q5, hk, rfl, hA5, hQ5, hR5, hX5, hG5⟩ := hrel
    have BA := hid hA5
    have OQ := hid hQ5
    have OR := hid hR5
    have BX := hid hX5
    have GW := hid (Step.none hG5)
    have FW := hid hG5
    clear hA5 hQ5 hR5 hX5 hG5
    by_cases hlt : k < x.row.length
    · have hflt := HLN.out k (by rw [hfl.out]; exact hlt)
      rw [fit_get] at hflt
      have HT := hid hflt
      clear hflt
      obtain ⟨aoq, capq, rfl, hncq, hcmq⟩ := (Sl.of_own OQ.out).shape
      have y0 : ∀ j, wr.cell? ⟨w.heap.size, j, none⟩ = (#[.slice ao x.row.length cap, .slice ao2 x.seq.length cap2, .int .i64 x.day] : Array Value)[j]? := fun j => cell_of_row wr _ j _ _ _ BX.out
      have ya : ∀ j, wr.cell? ⟨A, j, none⟩ = (#[r3, .slice aoq k capq, .int .i64 x.day] : Array Value)[j]? := fun j => cell_of_row wr _ j _ _ _ BA.out
      by_cases hq2 : k < x.seq.length
      · obtain ⟨blk, off, rfl, hc⟩ := (HQ.out.1.kn GW.out).at k (by simpa using hq2)
        have h0 : wr.cell? ⟨blk, off + k, none⟩ = some (.int .i64 (x.seq.getD k 0)) := by
          rw [hc k (by simpa using hq2), List.getElem_map, List.getD_eq_getElem?_getD, List.getElem?_eq_getElem hq2]; rfl
        generalize x.seq.getD k 0 = z at *
        clear hc
        go_wp2_with (first
          | (at_builtin; go_must (refine wpList_pushH intsT rfl _ _ rfl _ _ _ rfl OQ.out [.int .i64 (z)] 1 _ rfl rfl rfl rfl (by omega) ?_; intro v7 w7 hown7 hst7; obtain ⟨ao7, cap7, rfl, _, _⟩ := (Sl.of_own hown7).shape; have A7 := hid (row_of hst7.1 BA.out (fun e => Own.ne OQ.out BA.out (by decide) e.symm)); have X7 := hid (row_of hst7.1 BX.out (fun e => Own.ne OQ.out BX.out (by decide) e.symm)); have R7 := hid (Own.other OR.out OQ.out hst7 (by decide)); have O7 := hid hown7; have S7 := hid (Step.trans FW.out hst7); clear hown7 hst7))
          | (refine wpList_storeAt (v := .slice ao7 (k + 1) cap7) (cs := [.slice ao7 (k + 1) cap7]) rfl 93 (.tmp 56) (.tmp 55) rfl rfl rfl (tyIntsS (Sl.of_own O7.out)) A7.out (by simp) ?_; intro w8 hg8 hb8
             have A8 := hid hb8
             have X8 := hid (row_of hg8 X7.out (by simp; omega))
             have R8 := hid (Own.past R7.out hg8 A7.out (by decide))
             have Q8 := hid (Own.past O7.out hg8 A7.out (by decide))
             have G8 := hid (show Fresh w w8 (.slice ao7 (k + 1) cap7) from ⟨grown_newR (Step.none S7.out) hg8 (by omega), S7.out.2⟩)
             clear hg8 hb8)
          | fail)
        go_roundw
        case rel => exact ⟨k + 1, _, by omega, by go_num, by simpa using A8.out, by rw [HT.out, List.map_append]; exact Q8.out, R8.out, X8.out, G8.out⟩
        case measure => simp [intOf]; omega
      · have hz0 : x.seq.getD k 0 = 0 := by rw [List.getD_eq_getElem?_getD, List.getElem?_eq_none (by omega)]; rfl
        rw [hz0] at HT
        clear hz0
        go_wp2_with (first
          | (at_builtin; go_must (refine wpList_pushH intsT rfl _ _ rfl _ _ _ rfl OQ.out [.int .i64 (0)] 1 _ rfl rfl rfl rfl (by omega) ?_; intro v7 w7 hown7 hst7; obtain ⟨ao7, cap7, rfl, _, _⟩ := (Sl.of_own hown7).shape; have A7 := hid (row_of hst7.1 BA.out (fun e => Own.ne OQ.out BA.out (by decide) e.symm)); have X7 := hid (row_of hst7.1 BX.out (fun e => Own.ne OQ.out BX.out (by decide) e.symm)); have R7 := hid (Own.other OR.out OQ.out hst7 (by decide)); have O7 := hid hown7; have S7 := hid (Step.trans FW.out hst7); clear hown7 hst7))
          | (refine wpList_storeAt (v := .slice ao7 (k + 1) cap7) (cs := [.slice ao7 (k + 1) cap7]) rfl 93 (.tmp 56) (.tmp 55) rfl rfl rfl (tyIntsS (Sl.of_own O7.out)) A7.out (by simp) ?_; intro w8 hg8 hb8
             have A8 := hid hb8
             have X8 := hid (row_of hg8 X7.out (by simp; omega))
             have R8 := hid (Own.past R7.out hg8 A7.out (by decide))
             have Q8 := hid (Own.past O7.out hg8 A7.out (by decide))
             have G8 := hid (show Fresh w w8 (.slice ao7 (k + 1) cap7) from ⟨grown_newR (Step.none S7.out) hg8 (by omega), S7.out.2⟩)
             clear hg8 hb8)
          | fail)
        go_roundw
        case rel => exact ⟨k + 1, _, by omega, by go_num, by simpa using A8.out, by rw [HT.out, List.map_append]; exact Q8.out, R8.out, X8.out, G8.out⟩
        case measure => simp [intOf]; omega
    · obtain rfl : k = x.row.length := by omega
      have hft : (fit x.row.length x.seq).take x.row.length = fit x.row.length x.seq := List.take_of_length_le (by rw [fit_length]; omega)
      have hO := OQ.out
      rw [hft] at hO
      have OQ2 := hid hO
      clear hft hO OQ
      have y0 : ∀ j, wr.cell? ⟨w.heap.size, j, none⟩ = (#[.slice ao x.row.length cap, .slice ao2 x.seq.length cap2, .int .i64 x.day] : Array Value)[j]? := fun j => cell_of_row wr _ j _ _ _ BX.out
      have hel := encRec_len x (by omega) HN.out.1 HN.out.2
      have HEL := hid hel
      clear hel
      go_wp2_with fail
      refine (appendRecord_walk nilS _ _ x [] wr (Sl.nil _ _) (fun k hk => by simp [Value.ownBlock] at hk) ((DRow.of HS.out.1 HS.out.2).grown GW.out |>.mono GW.out.size) (HQ.out.1.kn GW.out) (HQ.out.2.mono GW.out.size) HN.out.1 HN.out.2 (by omega) (by simp)).mono ?_
      rintro e w5 ⟨v5, rfl, hown5, hf5⟩
      rw [List.nil_append] at hown5
      have O5 := hid hown5
      have G5 := hid (Step.none hf5)
      clear hown5 hf5 y0
      go_wp2_with fail
      refine (join_walk _ _ (encRec x) ys _ (Sl.of_own O5.out) (HR.out.1.kn (grown_trans GW.out G5.out)) (by have := HEL.out; omega)).mono ?_
      rintro e w6 ⟨v6, rfl, hown6, hf6⟩
      have G6 := hid (Step.none hf6)
      have hlo6 : Lo v6 w6.heap.size := fun k hk => Own.lt hown6 k hk
      have O6 := hid (And.intro hown6 hlo6)
      clear hown6 hf6 hlo6
      go_wp2_with fail
      refine (rdxRecord_walk v6 (encRec x ++ ys) w6 (Sl.of_own O6.out.1) (by have := HEL.out; rw [List.length_append]; omega) (app_byte (encRec_byte x) HY.out) O6.out.2).mono ?_
      intro e w7 h7
      obtain ⟨g7, m7, rv7, rfl, hrep7, hs7, _⟩ := h7.ok ((cd_rec x h1 HN.out.1 HN.out.2).rt ys)
      obtain ⟨ao7, cap7, rfl, _, _⟩ := hs7.shape
      obtain ⟨r9, q9, rfl, hr9, hq9⟩ := hrep7
      have S7 := hid hs7
      have R9 := hid hr9.sl
      have Q9 := hid hq9.1
      have G57 := hid (grown_trans G6.out g7)
      clear h7 hs7 hr9 hq9 g7
      simp only at R9 Q9
      go_wp2_with (first | (refine wpList_storeTYg rfl 95 (.tmp 9) (.tmp 64) rfl rfl rfl (tyRec r9 q9 x.day (oneCell_sl R9.out) (oneCell_sl Q9.out)) (heap_at rfl) rfl ?_; intro w8 hg8 hb8; have g8 := grown_newR (World.grownBy_alloc w7 _ none) hg8 (Nat.le_refl _); have G8 := hid g8; have B8 := hid hb8; clear hg8 hb8 g8) | fail)
      have g58 := grown_trans G57.out G8.out
      have gr8 := grown_trans G5.out g58
      have gt := grown_trans GW.out gr8
      have GT := hid gt
      have hX := row_of gr8 BX.out (by simp)
      have h0 : DRow w8.heap.size w8 (.slice ao x.row.length cap) x.row := (DRow.of HS.out.1 HS.out.2).grown gt |>.mono gt.size
      have hq : Sl w8 1 (.slice ao2 x.seq.length cap2) x.seq.length (x.seq.map (Value.int .i64)) ∧ Lo (.slice ao2 x.seq.length cap2) w8.heap.size := ⟨HQ.out.1.kn gt, HQ.out.2.mono gt.size⟩
      have hA := row_of gr8 BA.out (by simp)
      have h9 : Sl w8 3 r9 (x.row.map V.clean).length ((x.row.map V.clean).flatMap vcells) ∧ Sl w8 1 q9 (fit x.row.length x.seq).length ((fit x.row.length x.seq).map (Value.int .i64)) := ⟨R9.out.kn G8.out, Q9.out.kn G8.out⟩
      have h5 : Sl w8 3 r3 (x.row.map V.clean).length ((x.row.map V.clean).flatMap vcells) ∧ Sl w8 1 q5 (fit x.row.length x.seq).length ((fit x.row.length x.seq).map (Value.int .i64)) := ⟨(Sl.of_own OR.out).kn gr8, by rw [fit_length]; exact (Sl.of_own OQ2.out).kn gr8⟩
      have h8 := (Sl.of_own O5.out).kn g58
      have h1 := HR.out.1.kn gt
      have h10 := S7.out.kn G8.out
      refine region_list mixed (c12bL x ys ao ao2 cap cap2 w.heap.size w7.heap.size A r9 q9 r3 q5) _ (c12b_reg _) (c12b_m _) rfl ⟨.inr trivial, .inr h1, .inr rfl, .inr trivial, .inl rfl, .inr rfl, .inr trivial, .inr trivial, .inr h8, .inr rfl, .inr h10, .inr rfl, .inr trivial, .inr trivial, .inr trivial, .inr trivial, .inr trivial, .inr trivial, .inr trivial, .inr trivial, .inr trivial, .inr trivial, .inr trivial, .inr trivial, .inr trivial, .inr trivial, .inr trivial, .inr trivial, .inr trivial, .inr trivial, .inr trivial, .inr trivial, .inr trivial, .inr trivial, .inr trivial, .inr trivial, .inr trivial, .inr trivial, .inr trivial, .inr trivial, .inr trivial, .inr trivial, .inr trivial, .inr trivial, .inr trivial, .inr trivial, .inr trivial, .inr trivial, .inr trivial, .inr trivial, .inr trivial, .inr trivial, .inr trivial, .inr trivial, .inr trivial, .inr trivial, .inr trivial, .inr trivial, .inr trivial, .inr trivial, .inr trivial, .inr trivial, .inr trivial, .inr trivial, .inr trivial, .inr trivial, .inr trivial, .inl rfl, .inl rfl, .inl rfl, .inl rfl, .inl rfl, .inl rfl, .inl rfl, .inl rfl, .inl rfl, .inl rfl, .inl rfl, .inl rfl, .inl rfl, .inl rfl, .inl rfl, .inl rfl, .inl rfl, .inl rfl, .inl rfl, .inl rfl, .inl rfl, .inl rfl, .inl rfl, .inl rfl, .inl rfl, trivial⟩ (c12b_ob _ x ys ao ao2 cap cap2 w.heap.size w7.heap.size A r9 q9 r3 q5 _ hX h0 hq HN.out.1 HN.out.2 (by assumption) B8.out hA h9 h5) ?_
      intro a w9 hg9 hd9 hsz hk
      have h4 := hk 4 (by show 4 < 92; decide)
      go_wp2
      refine bodyPost_ret (results_tmp rfl _ _ _) hd9 ?_
      exact ⟨congrArg _ h4, grown_trans GT.out hg9⟩
end Go.Proofs.Ytkeiffccllfkpaa
