/- The law CodecChanges: the walk. -/
import Derived.Test.YtkeiffccllfkpaaL10r
import Derived.Test.YtkeiffccllfkpaaLaw6
namespace Go.Proofs.Ytkeiffccllfkpaa
open Go.RowKit
set_option linter.unusedSimpArgs false

theorem encCh_byte (x : Ch) : ∀ b ∈ encCh x, b < 256 := app_byte (enc_byte _) (app_byte (enc_byte _) (app_byte (enc_byte _) (app_byte (enc_byte _) (app_byte (encRow_byte _) (app_byte (encV_byte _) (app_byte (enc_byte _) (encV_byte _)))))))
set_option maxRecDepth 100000 in
set_option maxHeartbeats 1000000 in
theorem codecChanges_walk (r rest : Value) (x : Ch) (ys : List Nat) (w : World) (hr : Sl w 3 r x.row.length (x.row.flatMap vcells)) (hrl : Lo r w.heap.size) (hw0 : x.wf)
    (hrest : Sl w 1 rest ys.length (bv ys)) (hrsl : Lo rest w.heap.size) (hy : ∀ y ∈ ys, y < 256) :
    Calls Try.prog 10 #[valCh x r, rest] w fun e w' => e = .returned (.bool true) ∧ w.grownBy w' none := by
  obtain ⟨ao, cap, rfl, hnc, hcm⟩ := hr.shape
  obtain ⟨ao3, cap3, rfl, hnc3, hcm3⟩ := hrest.shape
  have HS := hid (And.intro hr hrl)
  have HR := hid (And.intro hrest hrsl)
  have HY := hid hy
  have HW := hid hw0
  clear hr hrl hrest hrsl hy hw0
  show Calls Try.prog 10 #[.agg #[.int .i64 x.kind, .int .i64 x.seq, .int .i64 x.day, .int .i64 x.table, (.slice ao x.row.length cap), .int .i64 x.key.kind, .int .i64 x.key.int, .string x.key.text, .int .i64 x.col, .int .i64 x.val.kind, .int .i64 x.val.int, .string x.val.text], _] w _
  by_cases h1 : ¬ x.row.length ≤ 16
  · have d1 : decide (x.row.length ≤ 16) = false := decide_eq_false h1
    go_enter Try.func10, Try.ntmps10
    go_wp2_with fail
    refine (short_walk _ _ _ _ (HS.out.1.kn (World.grownBy_alloc _ _ _))).mono ?_
    rintro e w' ⟨rfl, rfl⟩
    go_wp2_with (go_at_call 18; refine (awake_walk _).mono ?_; rintro e w' ⟨rfl, hg⟩)
    go_ret
    exact ⟨rfl, grown_trans (World.grownBy_alloc _ _ _) hg⟩
  have h1 : x.row.length ≤ 16 := by omega
  have d1 : decide (x.row.length ≤ 16) = true := decide_eq_true h1
  by_cases h3 : 100 < ys.length
  · have d3 : decide (100 < ys.length) = true := decide_eq_true h3
    go_enter Try.func10, Try.ntmps10
    go_wp2_with fail
    refine (short_walk _ _ _ _ (HS.out.1.kn (World.grownBy_alloc _ _ _))).mono ?_
    rintro e w' ⟨rfl, rfl⟩
    go_wp2_with (go_at_call 18; refine (awake_walk _).mono ?_; rintro e w' ⟨rfl, hg⟩)
    go_ret
    exact ⟨rfl, grown_trans (World.grownBy_alloc _ _ _) hg⟩
  have d3 : decide (100 < ys.length) = false := decide_eq_false h3
  go_enter Try.func10, Try.ntmps10
  go_wp2_with fail
  refine (short_walk _ _ _ _ (HS.out.1.kn (World.grownBy_alloc _ _ _))).mono ?_
  rintro e w' ⟨rfl, rfl⟩
  go_wp2_with fail
  have ga := World.grownBy_alloc w (.cells #[.int .i64 x.kind, .int .i64 x.seq, .int .i64 x.day, .int .i64 x.table, (.slice ao x.row.length cap), .int .i64 x.key.kind, .int .i64 x.key.int, .string x.key.text, .int .i64 x.col, .int .i64 x.val.kind, .int .i64 x.val.int, .string x.val.text] 86) none
  have hX : (w.alloc (.cells #[.int .i64 x.kind, .int .i64 x.seq, .int .i64 x.day, .int .i64 x.table, (.slice ao x.row.length cap), .int .i64 x.key.kind, .int .i64 x.key.int, .string x.key.text, .int .i64 x.col, .int .i64 x.val.kind, .int .i64 x.val.int, .string x.val.text] 86)).heap[w.heap.size]? = some (.cells #[.int .i64 x.kind, .int .i64 x.seq, .int .i64 x.day, .int .i64 x.table, (.slice ao x.row.length cap), .int .i64 x.key.kind, .int .i64 x.key.int, .string x.key.text, .int .i64 x.col, .int .i64 x.val.kind, .int .i64 x.val.int, .string x.val.text] 86 (0, 0)) := heap_at rfl
  have hz : (w.alloc (.cells #[.int .i64 x.kind, .int .i64 x.seq, .int .i64 x.day, .int .i64 x.table, (.slice ao x.row.length cap), .int .i64 x.key.kind, .int .i64 x.key.int, .string x.key.text, .int .i64 x.col, .int .i64 x.val.kind, .int .i64 x.val.int, .string x.val.text] 86)).heap.size = w.heap.size + 1 := by simp
  generalize w.alloc (.cells #[.int .i64 x.kind, .int .i64 x.seq, .int .i64 x.day, .int .i64 x.table, (.slice ao x.row.length cap), .int .i64 x.key.kind, .int .i64 x.key.int, .string x.key.text, .int .i64 x.col, .int .i64 x.val.kind, .int .i64 x.val.int, .string x.val.text] 86) = W at *
  have GA := hid ga
  have HX := hid hX
  have HZ := hid hz
  clear ga hX hz
  refine region_last mixed (c10aL x ao cap w.heap.size (w.heap.size + 1)) _ (c10a_reg _) (c10a_lb _) (c10a_m _) ?_ ?_ (c10a_ob _ x ao cap w.heap.size (w.heap.size + 1) _ HX.out ((DRow.of HS.out.1 HS.out.2).grown GA.out |>.mono GA.out.size) (by omega) (by rw [HZ.out]; exact Nat.le_refl _)) ?_
  · rfl
  · exact ⟨.inr trivial, .inr trivial, .inr rfl, .inr trivial, .inr trivial, .inl rfl, .inr trivial, .inr trivial, .inr trivial, .inr trivial, .inr trivial, .inr trivial, .inr trivial, .inr trivial, .inr trivial, .inr trivial, .inr trivial, .inr trivial, .inr trivial, .inr trivial, .inl rfl, .inl rfl, .inl rfl, .inl rfl, .inl rfl, .inl rfl, .inl rfl, .inl rfl, .inl rfl, .inl rfl, .inl rfl, .inl rfl, .inl rfl, .inl rfl, .inl rfl, .inl rfl, .inl rfl, .inl rfl, .inl rfl, .inl rfl, .inr trivial, .inr trivial, .inr trivial, .inr trivial, .inr trivial, .inr trivial, .inr trivial, .inr trivial, .inr trivial, .inr trivial, .inr trivial, .inr trivial, .inr trivial, .inr trivial, .inr trivial, .inr trivial, .inr trivial, .inr trivial, .inr trivial, .inr trivial, .inr trivial, .inr trivial, .inr trivial, .inr trivial, .inr trivial, .inr trivial, .inr trivial, .inr trivial, .inr trivial, .inr trivial, .inr trivial, .inr trivial, .inr trivial, .inr trivial, .inr trivial, trivial⟩
  intro x3 w3 hg3 hk3
  obtain ⟨A, hA1, hA2, hA3⟩ := hk3 5 (by show 5 < 75; decide)
  obtain ⟨r3, hr1, hr2⟩ := hk3 39 (by show 39 < 75; decide)
  have hA1 : x3 5 = .pointer (some ⟨A, 0, none⟩) := hA1
  have hr1 : x3 39 = valCh x.clean r3 := hr1
  simp only [frameOf, Bool.false_eq_true, if_false, if_true]
  rw [hA1, hr1]
  have G3 := hid (grown_trans GA.out hg3)
  have X3 := hid (row_of hg3 HX.out (by simp))
  have R3 := hid hr2
  have A3 := hid hA3
  clear hk3 hA1 hr1 hg3 hr2 hA3
  refine wpList_storeTYg rfl 86 (.tmp 5) (.tmp 39) rfl rfl rfl (tyCh x.clean r3 (oneCell_sl (Sl.of_own R3.out))) A3.out rfl ?_
  intro w4 hg4 hb4
  have G4 := hid (grown_newR G3.out hg4 (by omega))
  have X4 := hid (row_of hg4 X3.out (by simp; omega))
  have R4 := hid (Own.past R3.out hg4 A3.out (by decide))
  have A4 := hid hb4
  clear hg4 hb4
  show wpList _ _ _ [] _ _
  have y0 : ∀ j, w4.cell? ⟨w.heap.size, j, none⟩ = (#[.int .i64 x.kind, .int .i64 x.seq, .int .i64 x.day, .int .i64 x.table, (.slice ao x.row.length cap), .int .i64 x.key.kind, .int .i64 x.key.int, .string x.key.text, .int .i64 x.col, .int .i64 x.val.kind, .int .i64 x.val.int, .string x.val.text] : Array Value)[j]? := fun j => cell_of_row w4 _ j _ _ _ X4.out
  have hel := encCh_len x (by omega) HW.out
  have HEL := hid hel
  clear hel
  go_wp2_with fail
  refine (appendChange_walk nilS _ x [] w4 (Sl.nil _ _) (fun k hk => by simp [Value.ownBlock] at hk) ((DRow.of HS.out.1 HS.out.2).grown G4.out |>.mono G4.out.size) HW.out (by omega) (by simp)).mono ?_
  rintro e w5 ⟨v5, rfl, hown5, hf5⟩
  rw [List.nil_append] at hown5
  have O5 := hid hown5
  have G5 := hid (Step.none hf5)
  clear hown5 hf5 y0
  go_wp2_with fail
  refine (join_walk _ _ (encCh x) ys _ (Sl.of_own O5.out) (HR.out.1.kn (grown_trans G4.out G5.out)) (by have := HEL.out; omega)).mono ?_
  rintro e w6 ⟨v6, rfl, hown6, hf6⟩
  have G6 := hid (Step.none hf6)
  have hlo6 : Lo v6 w6.heap.size := fun k hk => Own.lt hown6 k hk
  have O6 := hid (And.intro hown6 hlo6)
  clear hown6 hf6 hlo6
  go_wp2_with fail
  refine (rdxChange_walk v6 (encCh x ++ ys) w6 (Sl.of_own O6.out.1) (by have := HEL.out; rw [List.length_append]; omega) (app_byte (encCh_byte x) HY.out) O6.out.2).mono ?_
  intro e w7 h7
  obtain ⟨g7, m7, rv7, rfl, hrep7, hs7, _⟩ := h7.ok ((cd_ch x h1 HW.out).rt ys)
  obtain ⟨ao7, cap7, rfl, _, _⟩ := hs7.shape
  obtain ⟨r7, rfl, hr7⟩ := hrep7
  have S7 := hid hs7
  have R7 := hid hr7.sl
  have G57 := hid (grown_trans G6.out g7)
  clear h7 hs7 hr7 g7
  have R7 : Hid (Sl w7 3 r7 (x.row.map V.clean).length ((x.row.map V.clean).flatMap vcells)) := R7
  go_wp2_with (first | (refine wpList_storeTYg rfl 86 (.tmp 7) (.tmp 47) rfl rfl rfl (tyCh x.clean r7 (oneCell_sl R7.out)) (heap_at rfl) rfl ?_; intro w8 hg8 hb8; have g8 := grown_newR (World.grownBy_alloc w7 _ none) hg8 (Nat.le_refl _); have G8 := hid g8; have B8 := hid hb8; clear hg8 hb8 g8) | fail)
  have g58 := grown_trans G57.out G8.out
  have gr8 := grown_trans G5.out g58
  have gt := grown_trans G4.out gr8
  have GT := hid gt
  have hX := row_of gr8 X4.out (by simp)
  have h0 : DRow w8.heap.size w8 (.slice ao x.row.length cap) x.row := (DRow.of HS.out.1 HS.out.2).grown gt |>.mono gt.size
  have hA := row_of gr8 A4.out (by simp)
  have h7 := R7.out.kn G8.out
  have h5 := (Sl.of_own R4.out).kn gr8
  have h6 := (Sl.of_own O5.out).kn g58
  have h1' := HR.out.1.kn gt
  have h8 := S7.out.kn G8.out
  refine region_list mixed (c10bL x ys ao cap w.heap.size w7.heap.size A r7 r3) _ (c10b_reg _) (c10b_m _) rfl ⟨.inr trivial, .inr h1', .inr rfl, .inr trivial, .inl rfl, .inr rfl, .inr h6, .inr rfl, .inr h8, .inr rfl, .inr trivial, .inr trivial, .inr trivial, .inr trivial, .inr trivial, .inr trivial, .inr trivial, .inr trivial, .inr trivial, .inr trivial, .inr trivial, .inr trivial, .inr trivial, .inr trivial, .inr trivial, .inr trivial, .inr trivial, .inr trivial, .inr trivial, .inr trivial, .inr trivial, .inr trivial, .inr trivial, .inr trivial, .inr trivial, .inr trivial, .inr trivial, .inr trivial, .inr trivial, .inr trivial, .inr trivial, .inr trivial, .inr trivial, .inr trivial, .inr trivial, .inr trivial, .inr trivial, .inr trivial, .inr trivial, .inr trivial, .inl rfl, .inl rfl, .inl rfl, .inl rfl, .inl rfl, .inl rfl, .inl rfl, .inl rfl, .inl rfl, .inl rfl, .inl rfl, .inl rfl, .inl rfl, .inl rfl, .inl rfl, .inl rfl, .inl rfl, .inl rfl, .inl rfl, .inl rfl, .inl rfl, .inl rfl, .inl rfl, .inl rfl, .inl rfl, trivial⟩ (c10b_ob _ x ys ao cap w.heap.size w7.heap.size A r7 r3 _ hX h0 HW.out (by assumption) B8.out hA h7 h5) ?_
  intro a w9 hg9 hd9 hsz hk
  have h4 := hk 4 (by show 4 < 75; decide)
  go_wp2
  refine bodyPost_ret (results_tmp rfl _ _ _) hd9 ?_
  exact ⟨congrArg _ h4, grown_trans GT.out hg9⟩
end Go.Proofs.Ytkeiffccllfkpaa
