import Derived.Test.YtkeiffccllfkpaaRdN5
import Derived.Test.YtkeiffccllfkpaaRdN12
import Derived.Test.YtkeiffccllfkpaaRdN19
import Derived.Test.YtkeiffccllfkpaaRdN22
set_option linter.unusedSimpArgs false
set_option linter.unusedVariables false
set_option maxRecDepth 100000
set_option maxHeartbeats 8000000
/- The law CodecReads at changes. (printed by gen_law15.py) -/
namespace Go.Proofs.Ytkeiffccllfkpaa
open Go.RowKit
set_option linter.unusedSimpArgs false
set_option linter.unusedVariables false
theorem ty_of_ch {L : Nat} {w : World} {v : Value} {x : Ch} (h : repCh L w v x) : ∃ cs, TY Try.prog 86 cs v ∧ cs.length = 12 := by
 obtain ⟨r, rfl, h1⟩ := h
 obtain ⟨_, _, rfl, _, _⟩ := h1.1.shape
 exact ⟨_, tyCh _ _ rfl, rfl⟩
theorem ch_kept {L : Nat} {w w' : World} {row : Option Nat} {v : Value} {x : Ch} (h : repCh L w v x) (g : w.grownBy w' row) (hr : ∀ k, row = some k → k < L) : repCh L w' v x := by
 obtain ⟨r, rfl, h1⟩ := h
 exact ⟨r, rfl, kept_row h1.1 (fun k hk => (h1.2 k hk).1) g hr, fun k hk => ⟨(h1.2 k hk).1, Nat.lt_of_lt_of_le (h1.2 k hk).2 g.size⟩, h1.3⟩
theorem ch_same {L L' : Nat} {w : World} {v v2 : Value} {x : Ch} (h : repCh L w v x) (h2 : repCh L' w v2 x) : Calls Try.prog 54 #[v, v2] w fun e w' => e = .returned (.bool true) ∧ w.grownBy w' none := by
 obtain ⟨r, rfl, a1⟩ := h
 obtain ⟨r', rfl, b1⟩ := h2
 refine (sameChange_walk r r' x x w a1.1 b1.1).mono ?_
 rintro e w' ⟨rfl, g⟩
 exact ⟨by simp, g⟩
theorem ch_zero (w : World) : Calls Try.prog 54 #[.agg #[.int .i64 0, .int .i64 0, .int .i64 0, .int .i64 0, .slice none 0 0, .int .i64 0, .int .i64 0, .string ⟨#[]⟩, .int .i64 0, .int .i64 0, .int .i64 0, .string ⟨#[]⟩], .agg #[.int .i64 0, .int .i64 0, .int .i64 0, .int .i64 0, .slice none 0 0, .int .i64 0, .int .i64 0, .string ⟨#[]⟩, .int .i64 0, .int .i64 0, .int .i64 0, .string ⟨#[]⟩]] w fun e w' => e = .returned (.bool true) ∧ w.grownBy w' none :=
 ch_same (L := 0) (L' := 0) (x := ⟨0, 0, 0, 0, [], ⟨0, 0, ByteArray.empty⟩, 0, ⟨0, 0, ByteArray.empty⟩⟩) ⟨.slice none 0 0, rfl, Sl.nil _ _, fun k hk => by simp [Value.ownBlock] at hk, by simp⟩ ⟨.slice none 0 0, rfl, Sl.nil _ _, fun k hk => by simp [Value.ownBlock] at hk, by simp⟩
theorem reads4 (b : Value) (xs : List Nat) (kind : Int) (w : World) (hb : Sl w 1 b xs.length (bv xs)) (hbl : Lo b w.heap.size) (hx : ∀ x ∈ xs, x < 256) (h200 : ¬ 200 < xs.length) (hk : bits .and .i64 kind 7 = 4) :
   Calls Try.prog 15 #[b, .int .i64 kind] w fun e w' => e = .returned (.bool true) ∧ w.grownBy w' none := by
 obtain ⟨ao, cap, rfl, hnc, hcm⟩ := hb.shape
 have HB := hid hb
 have HL := hid hbl
 have HX := hid hx
 have HLEN := hid h200
 clear hb hbl hx
 have d1 : decide (200 < xs.length) = false := decide_eq_false h200
 go_enter Try.func15, Try.ntmps15
 go_wp2_with fail
 have ga := World.grownBy_alloc w (.cells #[.slice ao xs.length cap, .int .i64 0] 33) none
 refine (rdxChange_walk (.slice ao xs.length cap) xs _ (HB.out.kn ga) (by have := HLEN.out; omega) HX.out (HL.out.mono ga.size)).mono ?_
 intro e w1 h4
 have g1 := h4.1
 have hst : RSt 33 w.heap.size w1 w.heap.size (.ok xs) :=
   ⟨_, xs, ⟨rfl, row_of g1 (heap_at rfl) (by simp)⟩, HB.out.kn (grown_trans ga g1), ⟨HL.out, Nat.le_refl _⟩, HX.out, by have := HLEN.out; omega⟩
 have hs1 : w.heap.size < w1.heap.size := by have := g1.size; simp at this; omega
 have HST := hid hst
 have G1 := hid (grown_trans ga g1)
 clear hst g1 ga
 cases hp : pCh xs with
 | error n =>
   unfold ReadPost at h4
   rw [hp] at h4
   obtain ⟨_, rfl, hne⟩ := h4
   have HP := hid hp
   clear hp
   have T1 := hid (tyCh ⟨0, 0, 0, 0, [], ⟨0, 0, ByteArray.empty⟩, 0, ⟨0, 0, ByteArray.empty⟩⟩ (.slice none 0 0) rfl)
   have L1 := hid (show (chcells ⟨0, 0, 0, 0, [], ⟨0, 0, ByteArray.empty⟩, 0, ⟨0, 0, ByteArray.empty⟩⟩ (.slice none 0 0)).length = 12 from rfl)
   go_wp2_with (first | (refine wpList_storeTYg rfl 86 (.tmp 25) (.tmp 195) rfl rfl rfl T1.out (heap_at rfl) (by rw [L1.out]; rfl) ?_; intro W1 gg1 hb1; have HB1 := hid hb1; have GG1 := hid (grown_newR (World.grownBy_alloc w1 _ none) gg1 (Nat.le_refl _)); clear gg1 hb1) | fail)
   refine (rChange_read _ _ _ (HST.out.kept GG1.out)).mono ?_
   rintro e w2 ⟨v2, y, s2, rfl, hrep, hg2, hst2, hrel⟩
   obtain rfl := hrel.err_of HP.out
   obtain ⟨C2, ht2, hl2⟩ := ty_of_ch hrep
   obtain ⟨v3, l3, ⟨he, he2, hrow⟩, _⟩ := hst2
   obtain ⟨r0, r1, r2, r3⟩ := row2 hrow
   have be : ((n : Int) != 0) = true := by simp; omega
   have be' : ((n : Int) == 0) = false := by simp; omega
   have HBX := hid (row_of hg2 HB1.out (by simp; omega))
   have HG2 := hid hg2
   have HROW := hid hrow
   have T2 := hid ht2
   have L2 := hid hl2
   clear hrel he he2 hrow hg2 hrep hne ht2 hl2 r0 r1 r2 r3
   go_wp2_with (first | (refine wpList_storeTYg rfl 86 (.tmp 28) (.tmp 199) rfl rfl rfl T2.out (heap_at rfl) (by rw [L2.out]; rfl) ?_; intro W2 gg2 hb2; have HB2 := hid hb2; have GG2 := hid (grown_newR (World.grownBy_alloc w2 _ none) gg2 (Nat.le_refl _)); clear gg2 hb2; have hbx2 := row_of GG2.out HBX.out (by simp); have HBX2 := hid hbx2; have hrow2 := row_of GG2.out HROW.out (by simp); have HROW2 := hid hrow2; obtain ⟨p0, p1, p2, p3⟩ := row2 hrow2; clear hbx2 hrow2) | (refine wpList_nml (x := 25) (i7 := 7) (T := 86) rfl 206 207 205 .neq 25 (.int .i64 0) (.int .i64 n) rfl rfl rfl rfl rfl rfl (fun q h => by cases h) rfl (Nat.le_of_ble_eq_true rfl) (Nat.le_of_ble_eq_true rfl) (by decide) (by decide) rfl (fun w => by simp [eqGuard, binOp_neq, be]) rfl T1.out (rangeAt_row HBX2.out) ?_) | (go_at_call 54; refine (ch_zero _).mono ?_; rintro e w5 ⟨rfl, hg5⟩; have hrow5 := row_of hg5 HROW2.out (by simp); obtain ⟨q0, q1, q2, q3⟩ := row2 hrow5; have HG5 := hid hg5; clear hrow5 hg5) | (go_at_call 18; refine (awake_walk _).mono ?_; rintro e w' ⟨rfl, hg⟩) | fail)
   go_ret
   exact ⟨rfl, grown_trans (grown_trans (grown_trans (grown_newR G1.out (grown_trans (grown_none GG1.out) HG2.out) (Nat.le_refl _)) GG2.out) HG5.out) hg⟩
 | ok p =>
   obtain ⟨x, ys⟩ := p
   unfold ReadPost at h4
   rw [hp] at h4
   obtain ⟨_, v, rv, rfl, hrep, hrest, hrlo⟩ := h4
   have RLO := hid (show ∀ k, rv.ownBlock = some k → w.heap.size + 1 ≤ k from fun k hk => by have := hrlo k hk; simpa using this)
   obtain ⟨ao3, cap3, rfl, _, _⟩ := hrest.shape
   obtain ⟨C1, ht1, hl1⟩ := ty_of_ch hrep
   have HP := hid hp
   have HRT := hid hrest
   have HREP := hid hrep
   have T1 := hid ht1
   have L1 := hid hl1
   clear hp hrest hrep ht1 hl1 hrlo
   go_wp2_with (first | (refine wpList_storeTYg rfl 86 (.tmp 25) (.tmp 195) rfl rfl rfl T1.out (heap_at rfl) (by rw [L1.out]; rfl) ?_; intro W1 gg1 hb1; have HB1 := hid hb1; have GG1 := hid (grown_newR (World.grownBy_alloc w1 _ none) gg1 (Nat.le_refl _)); clear gg1 hb1) | fail)
   refine (rChange_read _ _ _ (HST.out.kept GG1.out)).mono ?_
   rintro e w2 ⟨v2, y, s2, rfl, hrep2, hg2, hst2, hrel⟩
   obtain ⟨rfl, rfl⟩ := hrel.ok_of HP.out
   obtain ⟨C2, ht2, hl2⟩ := ty_of_ch hrep2
   obtain ⟨v3, l3, ⟨rfl, hrow⟩, hs3, _⟩ := hst2
   have HBX := hid (row_of hg2 HB1.out (by simp; omega))
   have hk2 := ch_kept (ch_kept HREP.out GG1.out (fun k hk => by cases hk)) hg2 (fun k hk => by cases hk; simp)
   have HG2 := hid hg2
   have HROW := hid hrow
   have T2 := hid ht2
   have L2 := hid hl2
   have H32 := hid hs3
   have SM := hid (fun (W : World) (g : w2.grownBy W none) => ch_same (ch_kept hk2 g (fun k hk => by cases hk)) (ch_kept hrep2 g (fun k hk => by cases hk)))
   clear hrel hrow hg2 hrep2 ht2 hl2 hs3 hk2
   go_wp2_with (first | (refine wpList_storeTYg rfl 86 (.tmp 28) (.tmp 199) rfl rfl rfl T2.out (heap_at rfl) (by rw [L2.out]; rfl) ?_; intro W2 gg2 hb2; have HB2 := hid hb2; have GG2 := hid (grown_newR (World.grownBy_alloc w2 _ none) gg2 (Nat.le_refl _)); clear gg2 hb2; have hbx2 := row_of GG2.out HBX.out (by simp); have HBX2 := hid hbx2; have hrow2 := row_of GG2.out HROW.out (by simp); have HROW2 := hid hrow2; obtain ⟨p0, p1, p2, p3⟩ := row2 hrow2; clear hbx2 hrow2) | (refine wpList_nml2 (x := 25) (x2 := 28) (i7 := 18) (T := 86) rfl 217 218 216 .eql 25 (.int .i64 0) (.int .i64 0) rfl rfl rfl rfl rfl rfl (fun q h => by cases h; intro e; exact absurd (Option.some.inj e) (by decide)) rfl (Nat.le_of_ble_eq_true rfl) (Nat.le_of_ble_eq_true rfl) (by decide) (by decide) (by decide) (by decide) (by decide) (by decide) rfl (fun w => by simp [eqGuard, binOp_eql]) rfl T1.out (rangeAt_row HBX2.out) rfl T2.out (rangeAt_row HB2.out) ?_) | (go_at_call 54; refine (SM.out _ GG2.out).mono ?_; rintro e w5 ⟨rfl, hg5⟩; have hrow5 := row_of hg5 HROW2.out (by simp); obtain ⟨p0, p1, p2, p3⟩ := row2 hrow5; have HG5 := hid (grown_trans GG2.out hg5); have H3 := hid (H32.out.kn HG5.out); clear hrow5 hg5) | fail)
   go_wp2
   have hrest := HRT.out.kept (grown_trans (grown_trans (grown_none GG1.out) HG2.out) (grown_none HG5.out)) (.inr fun e => by have := RLO.out _ e; omega)
   refine region_list mixed (c46L ys w.heap.size) _ (c46_reg _) (c46_m _) rfl ⟨.inr trivial, .inr trivial, .inr trivial, .inr trivial, .inl rfl, .inr rfl, .inr hrest, .inr rfl, .inr rfl, .inr trivial, .inr trivial, .inr trivial, .inr trivial, .inr trivial, .inr trivial, .inr trivial, .inr trivial, .inr trivial, .inr trivial, .inr trivial, .inr trivial, .inr trivial, .inr trivial, .inr trivial, .inr trivial, .inr trivial, .inr trivial, .inr trivial, .inr trivial, .inr trivial, .inr trivial, .inr trivial, .inr trivial, .inr trivial, .inr trivial, .inr trivial, .inr trivial, .inr trivial, .inr trivial, .inr trivial, .inr trivial, .inr trivial, .inr trivial, .inr trivial, .inr trivial, .inr trivial, .inr trivial, .inr trivial, .inr trivial, .inr trivial, .inr trivial, .inr trivial, .inr trivial, .inr trivial, .inr trivial, .inr trivial, .inr trivial, .inr trivial, .inr trivial, .inr trivial, .inr trivial, .inr trivial, .inr trivial, .inr trivial, .inr trivial, .inr trivial, .inr trivial, .inr trivial, .inr trivial, .inr trivial, .inr trivial, .inr trivial, .inr trivial, .inr trivial, .inr trivial, .inr trivial, .inr trivial, .inr trivial, .inr trivial, .inr trivial, .inr trivial, .inr trivial, .inr trivial, .inr trivial, .inr trivial, .inr trivial, .inr trivial, .inr trivial, .inr trivial, .inr trivial, .inr trivial, .inr trivial, .inr trivial, .inr trivial, .inr trivial, .inr trivial, .inr trivial, .inr trivial, .inr trivial, .inr trivial, .inr trivial, .inr trivial, .inr trivial, .inr trivial, .inr trivial, .inr trivial, .inr trivial, .inr trivial, .inr trivial, .inr trivial, .inr trivial, .inr trivial, .inr trivial, .inr trivial, .inr trivial, .inr trivial, .inr trivial, .inr trivial, .inr trivial, .inr trivial, .inr trivial, .inr trivial, .inr trivial, .inr trivial, .inr trivial, .inr trivial, .inr trivial, .inr trivial, .inr trivial, .inr trivial, .inr trivial, .inr trivial, .inr trivial, .inr trivial, .inr trivial, .inr trivial, .inr trivial, .inr trivial, .inr trivial, .inr trivial, .inr trivial, .inr trivial, .inr trivial, .inr trivial, .inr trivial, .inr trivial, .inr trivial, .inr trivial, .inr trivial, .inr trivial, .inr trivial, .inr trivial, .inr trivial, .inr trivial, .inr trivial, .inr trivial, .inr trivial, .inr trivial, .inr trivial, .inr trivial, .inr trivial, .inr trivial, .inr trivial, .inr trivial, .inr trivial, .inr trivial, .inr trivial, .inr trivial, .inr trivial, .inr trivial, .inr trivial, .inr trivial, .inr trivial, .inr trivial, .inr trivial, .inr trivial, .inr trivial, .inr trivial, .inr trivial, .inr trivial, .inr trivial, .inr trivial, .inr trivial, .inr trivial, .inr trivial, .inr trivial, .inr trivial, .inr trivial, .inr trivial, .inr trivial, .inr trivial, .inr trivial, .inr trivial, .inr trivial, .inr trivial, .inr trivial, .inr trivial, .inr trivial, .inr trivial, .inr trivial, .inr trivial, .inr trivial, .inr trivial, .inr trivial, .inr trivial, .inr trivial, .inr trivial, .inr trivial, .inr trivial, .inr trivial, .inr trivial, .inr trivial, .inr trivial, .inr trivial, .inr trivial, .inr trivial, .inr trivial, .inr trivial, .inr trivial, .inr trivial, .inr trivial, .inr trivial, .inr trivial, .inr trivial, .inr trivial, .inr trivial, .inr trivial, .inr trivial, .inr trivial, .inr trivial, .inr trivial, .inr trivial, .inr trivial, .inr trivial, .inr trivial, .inr trivial, .inr trivial, .inr trivial, .inr trivial, .inr trivial, .inr trivial, .inr trivial, .inr trivial, .inr trivial, .inr trivial, .inr trivial, .inr trivial, .inr trivial, .inr trivial, .inr trivial, .inr trivial, .inr trivial, .inr trivial, .inr trivial, .inr trivial, .inr trivial, .inr trivial, .inr trivial, .inr trivial, .inr trivial, .inr trivial, .inr trivial, .inr trivial, .inr trivial, .inr trivial, .inr trivial, .inr trivial, .inr trivial, .inr trivial, .inr trivial, .inr trivial, .inr trivial, .inr trivial, .inr trivial, .inr trivial, .inr trivial, .inr trivial, .inr trivial, .inr trivial, .inr trivial, .inr trivial, .inr trivial, .inr trivial, .inr trivial, .inr trivial, .inr trivial, .inr trivial, .inr trivial, .inr trivial, .inr trivial, .inr trivial, .inr trivial, .inr trivial, .inr trivial, .inr trivial, .inr trivial, .inr trivial, .inr trivial, .inr trivial, .inr trivial, .inr trivial, .inr trivial, .inr trivial, .inr trivial, .inr trivial, .inr trivial, .inr trivial, .inr trivial, .inr trivial, .inr trivial, .inr trivial, .inr trivial, .inr trivial, .inr trivial, .inr trivial, .inr trivial, .inr trivial, .inr trivial, .inr trivial, .inr trivial, .inr trivial, .inr trivial, .inr trivial, .inr trivial, .inr trivial, .inr trivial, .inr trivial, .inr trivial, .inr trivial, .inr trivial, .inr trivial, .inr trivial, .inr trivial, .inr trivial, .inr trivial, .inr trivial, .inr trivial, .inr trivial, .inr trivial, .inr trivial, .inr trivial, .inr trivial, .inr trivial, .inr trivial, .inr trivial, .inr trivial, .inr trivial, .inr trivial, .inr trivial, .inr trivial, .inr trivial, .inr trivial, .inr trivial, .inr trivial, .inr trivial, .inr trivial, .inr trivial, .inr trivial, .inr trivial, .inr trivial, .inr trivial, .inr trivial, .inr trivial, .inr trivial, .inr trivial, .inr trivial, .inr trivial, .inr trivial, .inr trivial, .inr trivial, .inr trivial, .inr trivial, .inr trivial, .inr trivial, .inr trivial, .inr trivial, .inr trivial, .inr trivial, .inr trivial, .inr trivial, .inr trivial, .inr trivial, .inr trivial, .inl rfl, .inl rfl, .inl rfl, .inl rfl, .inl rfl, .inl rfl, .inl rfl, .inl rfl, .inl rfl, .inl rfl, .inl rfl, .inl rfl, .inl rfl, .inl rfl, .inl rfl, .inl rfl, .inl rfl, .inl rfl, trivial⟩ (c46_ob _ ys w.heap.size _ v3 H3.out (range1 p0)) ?_
   intro a w8 hg8 hd hsz hk8
   have h6 := hk8 4 (by show 4 < 401; decide)
   go_wp2
   refine bodyPost_ret (results_tmp rfl _ _ _) hd ?_
   exact ⟨congrArg _ h6, grown_trans (grown_trans (grown_newR G1.out (grown_trans (grown_none GG1.out) HG2.out) (Nat.le_refl _)) HG5.out) hg8⟩
end Go.Proofs.Ytkeiffccllfkpaa
/- The law CodecReads at versions. (printed by gen_law15.py) -/
namespace Go.Proofs.Ytkeiffccllfkpaa
open Go.RowKit
set_option linter.unusedSimpArgs false
set_option linter.unusedVariables false
theorem reads5 (b : Value) (xs : List Nat) (kind : Int) (w : World) (hb : Sl w 1 b xs.length (bv xs)) (hbl : Lo b w.heap.size) (hx : ∀ x ∈ xs, x < 256) (h200 : ¬ 200 < xs.length) (hk : bits .and .i64 kind 7 = 5) (h8 : (bits .and .i64 kind 8 == 0) = true) :
   Calls Try.prog 15 #[b, .int .i64 kind] w fun e w' => e = .returned (.bool true) ∧ w.grownBy w' none := by
 obtain ⟨ao, cap, rfl, hnc, hcm⟩ := hb.shape
 have HB := hid hb
 have HL := hid hbl
 have HX := hid hx
 have HLEN := hid h200
 clear hb hbl hx
 have d1 : decide (200 < xs.length) = false := decide_eq_false h200
 go_enter Try.func15, Try.ntmps15
 go_wp2_with fail
 have ga := World.grownBy_alloc w (.cells #[.slice ao xs.length cap, .int .i64 0] 33) none
 refine (rdxVersions_walk (.slice ao xs.length cap) xs _ (HB.out.kn ga) (by have := HLEN.out; omega) HX.out (HL.out.mono ga.size)).mono ?_
 intro e w1 h4
 have g1 := h4.1
 have hst : RSt 33 w.heap.size w1 w.heap.size (.ok xs) :=
   ⟨_, xs, ⟨rfl, row_of g1 (heap_at rfl) (by simp)⟩, HB.out.kn (grown_trans ga g1), ⟨HL.out, Nat.le_refl _⟩, HX.out, by have := HLEN.out; omega⟩
 have hs1 : w.heap.size < w1.heap.size := by have := g1.size; simp at this; omega
 have HST := hid hst
 have G1 := hid (grown_trans ga g1)
 clear hst g1 ga
 cases hp : pVers xs with
 | error n =>
   unfold ReadPost at h4
   rw [hp] at h4
   obtain ⟨_, rfl, hne⟩ := h4
   have HP := hid hp
   clear hp
   go_wp2_with fail
   refine (rVersions_read _ _ _ HST.out).mono ?_
   rintro e w2 ⟨v2, y, s2, rfl, hrep, hg2, hst2, hrel⟩
   obtain rfl := hrel.err_of HP.out
   obtain ⟨v3, l3, ⟨he, he2, hrow⟩, _⟩ := hst2
   obtain ⟨r0, r1, r2, r3⟩ := row2 hrow
   have be : ((n : Int) != 0) = true := by simp; omega
   have be' : ((n : Int) == 0) = false := by simp; omega
   have HG2 := hid hg2
   obtain ⟨ao2, cap2, rfl, _, _⟩ := hrep.1.shape
   clear hrel he he2 hrow hg2 hrep hne
   go_wp2_with (go_at_call 18; refine (awake_walk _).mono ?_; rintro e w' ⟨rfl, hg⟩)
   go_ret
   exact ⟨rfl, grown_trans (grown_newR G1.out HG2.out (Nat.le_refl _)) hg⟩
 | ok p =>
   obtain ⟨x, ys⟩ := p
   unfold ReadPost at h4
   rw [hp] at h4
   obtain ⟨_, v, rv, rfl, hrep, hrest, hrlo⟩ := h4
   have RLO := hid (show ∀ k, rv.ownBlock = some k → w.heap.size + 1 ≤ k from fun k hk => by have := hrlo k hk; simpa using this)
   clear hrlo
   obtain ⟨ao3, cap3, rfl, _, _⟩ := hrest.shape
   have HP := hid hp
   have HRT := hid hrest
   have HREP := hid hrep
   obtain ⟨ao1, cap1, rfl, _, _⟩ := hrep.1.shape
   clear hp hrest hrep
   go_wp2_with fail
   refine (rVersions_read _ _ _ HST.out).mono ?_
   rintro e w2 ⟨v2, y, s2, rfl, hrep2, hg2, hst2, hrel⟩
   obtain ⟨rfl, rfl⟩ := hrel.ok_of HP.out
   obtain ⟨v3, l3, ⟨rfl, hrow⟩, hs3, _⟩ := hst2
   obtain ⟨r0, r1, r2, r3⟩ := row2 hrow
   have HG2 := hid hg2
   have HROW := hid hrow
   have HREP2 := hid hrep2
   obtain ⟨ao2, cap2, rfl, _, _⟩ := hrep2.1.shape
   have hsl1 := HREP.out.1.kept hg2 (.inr fun e => by have := (HREP.out.2 _ e).1; simp at this; omega)
   have HS1 := hid hsl1
   clear hsl1
   clear hrel hrow hg2 hrep2
   go_wp2_with (go_at_call 35; refine (sameVers_walk _ _ _ _ _ HS1.out HREP2.out.1).mono ?_; rintro e w5 ⟨rfl, hg5⟩; have hrow5 := row_of hg5 HROW.out (by simp); obtain ⟨p0, p1, p2, p3⟩ := row2 hrow5; have HG5 := hid hg5; have H3 := hid (hs3.kn hg5); clear hrow5 hg5)
   go_wp2
   have hrest := HRT.out.kept (grown_trans HG2.out (grown_none HG5.out)) (.inr fun e => by have := RLO.out _ e; omega)
   refine region_list mixed (c46L ys w.heap.size) _ (c46_reg _) (c46_m _) rfl ⟨.inr trivial, .inr trivial, .inr trivial, .inr trivial, .inl rfl, .inr rfl, .inr hrest, .inr rfl, .inr rfl, .inr trivial, .inr trivial, .inr trivial, .inr trivial, .inr trivial, .inr trivial, .inr trivial, .inr trivial, .inr trivial, .inr trivial, .inr trivial, .inr trivial, .inr trivial, .inr trivial, .inr trivial, .inr trivial, .inr trivial, .inr trivial, .inr trivial, .inr trivial, .inr trivial, .inr trivial, .inr trivial, .inr trivial, .inr trivial, .inr trivial, .inr trivial, .inr trivial, .inr trivial, .inr trivial, .inr trivial, .inr trivial, .inr trivial, .inr trivial, .inr trivial, .inr trivial, .inr trivial, .inr trivial, .inr trivial, .inr trivial, .inr trivial, .inr trivial, .inr trivial, .inr trivial, .inr trivial, .inr trivial, .inr trivial, .inr trivial, .inr trivial, .inr trivial, .inr trivial, .inr trivial, .inr trivial, .inr trivial, .inr trivial, .inr trivial, .inr trivial, .inr trivial, .inr trivial, .inr trivial, .inr trivial, .inr trivial, .inr trivial, .inr trivial, .inr trivial, .inr trivial, .inr trivial, .inr trivial, .inr trivial, .inr trivial, .inr trivial, .inr trivial, .inr trivial, .inr trivial, .inr trivial, .inr trivial, .inr trivial, .inr trivial, .inr trivial, .inr trivial, .inr trivial, .inr trivial, .inr trivial, .inr trivial, .inr trivial, .inr trivial, .inr trivial, .inr trivial, .inr trivial, .inr trivial, .inr trivial, .inr trivial, .inr trivial, .inr trivial, .inr trivial, .inr trivial, .inr trivial, .inr trivial, .inr trivial, .inr trivial, .inr trivial, .inr trivial, .inr trivial, .inr trivial, .inr trivial, .inr trivial, .inr trivial, .inr trivial, .inr trivial, .inr trivial, .inr trivial, .inr trivial, .inr trivial, .inr trivial, .inr trivial, .inr trivial, .inr trivial, .inr trivial, .inr trivial, .inr trivial, .inr trivial, .inr trivial, .inr trivial, .inr trivial, .inr trivial, .inr trivial, .inr trivial, .inr trivial, .inr trivial, .inr trivial, .inr trivial, .inr trivial, .inr trivial, .inr trivial, .inr trivial, .inr trivial, .inr trivial, .inr trivial, .inr trivial, .inr trivial, .inr trivial, .inr trivial, .inr trivial, .inr trivial, .inr trivial, .inr trivial, .inr trivial, .inr trivial, .inr trivial, .inr trivial, .inr trivial, .inr trivial, .inr trivial, .inr trivial, .inr trivial, .inr trivial, .inr trivial, .inr trivial, .inr trivial, .inr trivial, .inr trivial, .inr trivial, .inr trivial, .inr trivial, .inr trivial, .inr trivial, .inr trivial, .inr trivial, .inr trivial, .inr trivial, .inr trivial, .inr trivial, .inr trivial, .inr trivial, .inr trivial, .inr trivial, .inr trivial, .inr trivial, .inr trivial, .inr trivial, .inr trivial, .inr trivial, .inr trivial, .inr trivial, .inr trivial, .inr trivial, .inr trivial, .inr trivial, .inr trivial, .inr trivial, .inr trivial, .inr trivial, .inr trivial, .inr trivial, .inr trivial, .inr trivial, .inr trivial, .inr trivial, .inr trivial, .inr trivial, .inr trivial, .inr trivial, .inr trivial, .inr trivial, .inr trivial, .inr trivial, .inr trivial, .inr trivial, .inr trivial, .inr trivial, .inr trivial, .inr trivial, .inr trivial, .inr trivial, .inr trivial, .inr trivial, .inr trivial, .inr trivial, .inr trivial, .inr trivial, .inr trivial, .inr trivial, .inr trivial, .inr trivial, .inr trivial, .inr trivial, .inr trivial, .inr trivial, .inr trivial, .inr trivial, .inr trivial, .inr trivial, .inr trivial, .inr trivial, .inr trivial, .inr trivial, .inr trivial, .inr trivial, .inr trivial, .inr trivial, .inr trivial, .inr trivial, .inr trivial, .inr trivial, .inr trivial, .inr trivial, .inr trivial, .inr trivial, .inr trivial, .inr trivial, .inr trivial, .inr trivial, .inr trivial, .inr trivial, .inr trivial, .inr trivial, .inr trivial, .inr trivial, .inr trivial, .inr trivial, .inr trivial, .inr trivial, .inr trivial, .inr trivial, .inr trivial, .inr trivial, .inr trivial, .inr trivial, .inr trivial, .inr trivial, .inr trivial, .inr trivial, .inr trivial, .inr trivial, .inr trivial, .inr trivial, .inr trivial, .inr trivial, .inr trivial, .inr trivial, .inr trivial, .inr trivial, .inr trivial, .inr trivial, .inr trivial, .inr trivial, .inr trivial, .inr trivial, .inr trivial, .inr trivial, .inr trivial, .inr trivial, .inr trivial, .inr trivial, .inr trivial, .inr trivial, .inr trivial, .inr trivial, .inr trivial, .inr trivial, .inr trivial, .inr trivial, .inr trivial, .inr trivial, .inr trivial, .inr trivial, .inr trivial, .inr trivial, .inr trivial, .inr trivial, .inr trivial, .inr trivial, .inr trivial, .inr trivial, .inr trivial, .inr trivial, .inr trivial, .inr trivial, .inr trivial, .inr trivial, .inr trivial, .inr trivial, .inr trivial, .inr trivial, .inr trivial, .inr trivial, .inr trivial, .inr trivial, .inr trivial, .inr trivial, .inr trivial, .inr trivial, .inr trivial, .inr trivial, .inr trivial, .inr trivial, .inr trivial, .inr trivial, .inr trivial, .inr trivial, .inr trivial, .inr trivial, .inr trivial, .inr trivial, .inr trivial, .inr trivial, .inr trivial, .inr trivial, .inr trivial, .inr trivial, .inr trivial, .inr trivial, .inr trivial, .inr trivial, .inr trivial, .inr trivial, .inr trivial, .inr trivial, .inr trivial, .inr trivial, .inr trivial, .inr trivial, .inr trivial, .inr trivial, .inr trivial, .inr trivial, .inr trivial, .inr trivial, .inr trivial, .inr trivial, .inr trivial, .inr trivial, .inr trivial, .inr trivial, .inl rfl, .inl rfl, .inl rfl, .inl rfl, .inl rfl, .inl rfl, .inl rfl, .inl rfl, .inl rfl, .inl rfl, .inl rfl, .inl rfl, .inl rfl, .inl rfl, .inl rfl, .inl rfl, .inl rfl, .inl rfl, trivial⟩ (c46_ob _ ys w.heap.size _ v3 H3.out (range1 p0)) ?_
   intro a w8 hg8 hd hsz hk8
   have h6 := hk8 4 (by show 4 < 401; decide)
   go_wp2
   refine bodyPost_ret (results_tmp rfl _ _ _) hd ?_
   exact ⟨congrArg _ h6, grown_trans (grown_trans (grown_newR G1.out HG2.out (Nat.le_refl _)) HG5.out) hg8⟩
end Go.Proofs.Ytkeiffccllfkpaa
/- Equality of the small structs. -/
namespace Go.Proofs.Ytkeiffccllfkpaa
open Go.RowKit
set_option linter.unusedSimpArgs false
theorem req_eq (q : Req) (px py : Operand) (w : World) : (do eqGuard .eql 105 px py (valReq q) (valReq q); binOp .eql 105 (valReq q) (valReq q) : Sem Value).run Try.prog w = .ok (.bool true) w := by
 simp only [valReq, reqcells, idfcells]
 go_simp
theorem lnk_eq (q : Lnk) (px py : Operand) (w : World) : (do eqGuard .eql 107 px py (valLnk q) (valLnk q); binOp .eql 107 (valLnk q) (valLnk q) : Sem Value).run Try.prog w = .ok (.bool true) w := by
 simp only [valLnk, lnkcells, idfcells, List.cons_append, List.nil_append]
 go_simp
theorem hld_eq (q : Hld) (px py : Operand) (w : World) : (do eqGuard .eql 109 px py (valHld q) (valHld q); binOp .eql 109 (valHld q) (valHld q) : Sem Value).run Try.prog w = .ok (.bool true) w := by
 simp only [valHld, hldcells, idfcells, List.cons_append, List.nil_append]
 go_simp
end Go.Proofs.Ytkeiffccllfkpaa
/- SameEntry on equal entries. -/
namespace Go.Proofs.Ytkeiffccllfkpaa
open Go.RowKit
set_option linter.unusedSimpArgs false
theorem wpList_loadH {P : Program} {ops : Array Oper} {rest : List Oper} {o : Oper} {a : Act} {w : World} {Q : Exit → Act → World → Prop} (T : TypeId) (x : Operand) (ho : o.op = .load T x) (hw : Region.wanted o (yielded ops a.tmps) = true)
   {b k : Nat} {cs : List Value} {v : Value} (hx : a.eval x = .pointer (some ⟨b, k, none⟩)) (ty : TY P T cs v) (hr : w.rangeAt b k cs)
   (h : wpList P ops Q rest (a.put o.dst v) w) : wpList P ops Q (o :: rest) a w := wpList_loadG hw T x ho hx ty hr h
theorem wpList_eqG {P : Program} {ops : Array Oper} {rest : List Oper} {o : Oper} {a : Act} {w : World} {Q : Exit → Act → World → Prop} (T T2 : TypeId) (x y : Operand) (ho : o.op = .binOp .eql T x y T2) (hw : Region.wanted o (yielded ops a.tmps) = true)
   {v u : Value} (hx : a.eval x = v) (hy : a.eval y = v) (hrun : (do eqGuard .eql T x y v v; binOp .eql T v v : Sem Value).run P w = .ok u w)
   (h : wpList P ops Q rest (a.put o.dst u) w) : wpList P ops Q (o :: rest) a w := by
 refine wpList_onG hw fun K hK => ?_
 unfold Oper.wp
 simp only [execOp, ho, hx, hy]
 simp only [Sem.run_bind] at hrun ⊢
 rw [hrun]
 exact hK _ _ h
theorem sameEntry_walk (e : LE) (v s v' s' : Value) (w : World) (hv : Sl w 3 v e.vers.length (e.vers.flatMap vercells)) (hs : Sl w 2 s e.srcs.length (e.srcs.flatMap srccells)) (hv' : Sl w 3 v' e.vers.length (e.vers.flatMap vercells)) (hs' : Sl w 2 s' e.srcs.length (e.srcs.flatMap srccells)) (hr : e.root.length = 32) :
   Calls Try.prog 62 #[leval e v s, leval e v' s'] w fun en w' => en = .returned (.bool true) ∧ w.grownBy w' none := by
 show Calls Try.prog 62 #[.agg (lecells e v s).toArray, .agg (lecells e v' s').toArray] w _
 have TV := hid (tyVersS hv)
 have TS := hid (tySrcsS hs)
 have TV' := hid (tyVersS hv')
 have TS' := hid (tySrcsS hs')
 have P0 : ((lecells e v s).drop 0).take (List.length [Value.int .i64 e.kind]) = [Value.int .i64 e.kind] := rfl
 have P1 : ((lecells e v s).drop 1).take (List.length [Value.int .i64 e.day]) = [Value.int .i64 e.day] := rfl
 have P2 : ((lecells e v s).drop 2).take (List.length [Value.int .i64 e.plan]) = [Value.int .i64 e.plan] := rfl
 have P3 : ((lecells e v s).drop 3).take (List.length [Value.int .i64 e.step]) = [Value.int .i64 e.step] := rfl
 have P4 : ((lecells e v s).drop 4).take (List.length (reqcells e.req)) = (reqcells e.req) := le_req e _ _
 have P5 : ((lecells e v s).drop 12).take (List.length (lnkcells e.lnk)) = (lnkcells e.lnk) := le_lnk e _ _
 have P6 : ((lecells e v s).drop 22).take (List.length (hldcells e.hld)) = (hldcells e.hld) := le_hld e _ _
 have P7 : ((lecells e v s).drop 31).take (List.length [v]) = [v] := le_vs e _ _
 have P8 : ((lecells e v s).drop 32).take (List.length [s]) = [s] := le_ss e _ _
 have P9 : ((lecells e v s).drop 33).take (List.length (bv e.root)) = (bv e.root) := le_root e _ _
 have Q0 : ((lecells e v' s').drop 0).take (List.length [Value.int .i64 e.kind]) = [Value.int .i64 e.kind] := rfl
 have Q1 : ((lecells e v' s').drop 1).take (List.length [Value.int .i64 e.day]) = [Value.int .i64 e.day] := rfl
 have Q2 : ((lecells e v' s').drop 2).take (List.length [Value.int .i64 e.plan]) = [Value.int .i64 e.plan] := rfl
 have Q3 : ((lecells e v' s').drop 3).take (List.length [Value.int .i64 e.step]) = [Value.int .i64 e.step] := rfl
 have Q4 : ((lecells e v' s').drop 4).take (List.length (reqcells e.req)) = (reqcells e.req) := le_req e _ _
 have Q5 : ((lecells e v' s').drop 12).take (List.length (lnkcells e.lnk)) = (lnkcells e.lnk) := le_lnk e _ _
 have Q6 : ((lecells e v' s').drop 22).take (List.length (hldcells e.hld)) = (hldcells e.hld) := le_hld e _ _
 have Q7 : ((lecells e v' s').drop 31).take (List.length [v']) = [v'] := le_vs e _ _
 have Q8 : ((lecells e v' s').drop 32).take (List.length [s']) = [s'] := le_ss e _ _
 have Q9 : ((lecells e v' s').drop 33).take (List.length (bv e.root)) = (bv e.root) := le_root e _ _
 generalize lecells e v s = C at *
 generalize lecells e v' s' = C' at *
 have gb := World.grownBy_alloc (w.alloc (.cells C.toArray 111)) (.cells C'.toArray 111) none
 have ga := grown_trans (World.grownBy_alloc w (.cells C.toArray 111) none) gb
 have hx := row_of gb (heap_at (w := w) (o := .cells C.toArray 111) rfl) (by simp)
 have hy := heap_at (w := w.alloc (.cells C.toArray 111)) (o := .cells C'.toArray 111) (n := w.heap.size + 1) (by simp)
 have HV := hid (hv.kept ga (by cases v.ownBlock <;> simp))
 have HS := hid (hs.kept ga (by cases s.ownBlock <;> simp))
 have HV' := hid (hv'.kept ga (by cases v'.ownBlock <;> simp))
 have HS' := hid (hs'.kept ga (by cases s'.ownBlock <;> simp))
 have GA := hid ga
 have A0 := hid (range_row hx 0 [Value.int .i64 e.kind] P0)
 have A1 := hid (range_row hx 1 [Value.int .i64 e.day] P1)
 have A2 := hid (range_row hx 2 [Value.int .i64 e.plan] P2)
 have A3 := hid (range_row hx 3 [Value.int .i64 e.step] P3)
 have A4 := hid (range_row hx 4 (reqcells e.req) P4)
 have A5 := hid (range_row hx 12 (lnkcells e.lnk) P5)
 have A6 := hid (range_row hx 22 (hldcells e.hld) P6)
 have A7 := hid (range_row hx 31 [v] P7)
 have A8 := hid (range_row hx 32 [s] P8)
 have A9 := hid (range_row hx 33 (bv e.root) P9)
 have B0 := hid (range_row hy 0 [Value.int .i64 e.kind] Q0)
 have B1 := hid (range_row hy 1 [Value.int .i64 e.day] Q1)
 have B2 := hid (range_row hy 2 [Value.int .i64 e.plan] Q2)
 have B3 := hid (range_row hy 3 [Value.int .i64 e.step] Q3)
 have B4 := hid (range_row hy 4 (reqcells e.req) Q4)
 have B5 := hid (range_row hy 12 (lnkcells e.lnk) Q5)
 have B6 := hid (range_row hy 22 (hldcells e.hld) Q6)
 have B7 := hid (range_row hy 31 [v'] Q7)
 have B8 := hid (range_row hy 32 [s'] Q8)
 have B9 := hid (range_row hy 33 (bv e.root) Q9)
 clear hx hy ga gb hv hs hv' hs' P0 P1 P2 P3 P4 P5 P6 P7 P8 P9 Q0 Q1 Q2 Q3 Q4 Q5 Q6 Q7 Q8 Q9
 have TR := hid (tyReq e.req)
 have TL := hid (tyLnk e.lnk)
 have TH := hid (tyHld e.hld)
 have TD := hid (tyDig e.root hr)
 have ER := hid (req_eq e.req)
 have EL := hid (lnk_eq e.lnk)
 have EH := hid (hld_eq e.hld)
 have ED := hid (dig_eq e.root hr)
 clear hr
 generalize valReq e.req = q1 at *
 generalize valLnk e.lnk = q2 at *
 generalize valHld e.hld = q3 at *
 generalize Value.agg (bv e.root).toArray = q4 at *
 generalize reqcells e.req = k1 at *
 generalize lnkcells e.lnk = k2 at *
 generalize hldcells e.hld = k3 at *
 generalize bv e.root = k4 at *
 go_enter Try.func62, Try.ntmps62
 simp only [List.append_eq, List.cons_append, List.nil_append]
 go_wp2_with (first | (refine wpList_loadH 3 (.tmp 5) rfl rfl rfl (ty3 e.kind) A0.out ?_) | (refine wpList_loadH 3 (.tmp 7) rfl rfl rfl (ty3 e.kind) B0.out ?_) | (refine wpList_loadH 3 (.tmp 11) rfl rfl rfl (ty3 e.day) A1.out ?_) | (refine wpList_loadH 3 (.tmp 13) rfl rfl rfl (ty3 e.day) B1.out ?_) | (refine wpList_loadH 3 (.tmp 18) rfl rfl rfl (ty3 e.plan) A2.out ?_) | (refine wpList_loadH 3 (.tmp 20) rfl rfl rfl (ty3 e.plan) B2.out ?_) | (refine wpList_loadH 3 (.tmp 25) rfl rfl rfl (ty3 e.step) A3.out ?_) | (refine wpList_loadH 3 (.tmp 27) rfl rfl rfl (ty3 e.step) B3.out ?_) | (refine wpList_loadH 105 (.tmp 32) rfl rfl rfl TR.out A4.out ?_) | (refine wpList_loadH 105 (.tmp 34) rfl rfl rfl TR.out B4.out ?_) | (refine wpList_eqG 105 105 (.tmp 33) (.tmp 35) rfl rfl rfl rfl (ER.out _ _ _) ?_) | (refine wpList_loadH 107 (.tmp 39) rfl rfl rfl TL.out A5.out ?_) | (refine wpList_loadH 107 (.tmp 41) rfl rfl rfl TL.out B5.out ?_) | (refine wpList_eqG 107 107 (.tmp 40) (.tmp 42) rfl rfl rfl rfl (EL.out _ _ _) ?_) | (refine wpList_loadH 109 (.tmp 46) rfl rfl rfl TH.out A6.out ?_) | (refine wpList_loadH 109 (.tmp 48) rfl rfl rfl TH.out B6.out ?_) | (refine wpList_eqG 109 109 (.tmp 47) (.tmp 49) rfl rfl rfl rfl (EH.out _ _ _) ?_) | (refine wpList_loadH 42 (.tmp 53) rfl rfl rfl TV.out A7.out ?_) | (refine wpList_loadH 42 (.tmp 55) rfl rfl rfl TV'.out B7.out ?_) | fail)
 refine (sameVers_walk v v' e.vers e.vers _ HV.out HV'.out).mono ?_
 rintro en w1 ⟨he, g1⟩
 rw [decide_eq_true rfl] at he
 subst he
 have G1 := hid (grown_trans GA.out g1)
 have HS1 := hid (HS.out.kept g1 (by cases s.ownBlock <;> simp))
 have HS1' := hid (HS'.out.kept g1 (by cases s'.ownBlock <;> simp))
 have A8n := hid (rangeAt_kept A8.out g1)
 have B8n := hid (rangeAt_kept B8.out g1)
 have A9n := hid (rangeAt_kept A9.out g1)
 have B9n := hid (rangeAt_kept B9.out g1)
 clear g1
 go_wp2_with (first | (refine wpList_loadH 43 (.tmp 60) rfl rfl rfl TS.out A8n.out ?_) | (refine wpList_loadH 43 (.tmp 62) rfl rfl rfl TS'.out B8n.out ?_) | fail)
 refine (sameSrcs_walk s s' e.srcs e.srcs _ HS1.out HS1'.out).mono ?_
 rintro en w2 ⟨he, g2⟩
 rw [decide_eq_true rfl] at he
 subst he
 have G2 := hid (grown_trans G1.out g2)
 have A9m := hid (rangeAt_kept A9n.out g2)
 have B9m := hid (rangeAt_kept B9n.out g2)
 clear g2
 go_wp2_with (first | (refine wpList_loadH 45 (.tmp 67) rfl rfl rfl TD.out A9m.out ?_) | (refine wpList_loadH 45 (.tmp 69) rfl rfl rfl TD.out B9m.out ?_) | (refine wpList_eqG 45 45 (.tmp 68) (.tmp 70) rfl rfl rfl rfl (ED.out _ _ _) ?_) | fail)
 go_ret
 exact ⟨rfl, G2.out⟩
end Go.Proofs.Ytkeiffccllfkpaa
/- The law CodecReads at entries. (printed by gen_law15.py) -/
namespace Go.Proofs.Ytkeiffccllfkpaa
open Go.RowKit
set_option linter.unusedSimpArgs false
set_option linter.unusedVariables false
theorem ty_of_le {L : Nat} {w : World} {v : Value} {x : LE} (h : repLE L w v x) : ∃ cs, TY Try.prog 111 cs v ∧ cs.length = 65 := by
 obtain ⟨vs, ss, rfl, h1, h2, h3, _⟩ := h
 exact ⟨_, tyLE (slice_one h1.1) (slice_one h2.1) h3, lecells_len _ _ _ h3⟩
theorem le_kept {L : Nat} {w w' : World} {row : Option Nat} {v : Value} {x : LE} (h : repLE L w v x) (g : w.grownBy w' row) (hr : ∀ k, row = some k → k < L) : repLE L w' v x :=
 repLE_mono L w w' v x h g.size (fun k h1 h2 => g.block k h2 (fun e => by have := hr k e.symm; omega)) L (Nat.le_refl _)
theorem le_same {L L' : Nat} {w : World} {v v2 : Value} {x : LE} (h : repLE L w v x) (h2 : repLE L' w v2 x) : Calls Try.prog 62 #[v, v2] w fun e w' => e = .returned (.bool true) ∧ w.grownBy w' none := by
 obtain ⟨vs, ss, rfl, a1, a2, a3, _⟩ := h
 obtain ⟨vs', ss', rfl, b1, b2, b3, _⟩ := h2
 exact sameEntry_walk x vs ss vs' ss' w a1.1 a2.1 b1.1 b2.1 a3
theorem le_zero (w : World) : Calls Try.prog 62 #[.agg Try.zeroCells111, .agg Try.zeroCells111] w fun en w' => en = .returned (.bool true) ∧ w.grownBy w' none := by
 have hz : leval (LE.base 0 0 0 0) nilS nilS = .agg Try.zeroCells111 := by rw [← leZ_arr]; rfl
 have := sameEntry_walk (LE.base 0 0 0 0) nilS nilS nilS nilS w (Sl.nil _ _) (Sl.nil _ _) (Sl.nil _ _) (Sl.nil _ _) z32_ok.1
 rw [hz] at this
 exact this
theorem reads6 (b : Value) (xs : List Nat) (kind : Int) (w : World) (hb : Sl w 1 b xs.length (bv xs)) (hbl : Lo b w.heap.size) (hx : ∀ x ∈ xs, x < 256) (h200 : ¬ 200 < xs.length) (hk : bits .and .i64 kind 7 = 6) :
   Calls Try.prog 15 #[b, .int .i64 kind] w fun e w' => e = .returned (.bool true) ∧ w.grownBy w' none := by
 obtain ⟨ao, cap, rfl, hnc, hcm⟩ := hb.shape
 have HB := hid hb
 have HL := hid hbl
 have HX := hid hx
 have HLEN := hid h200
 clear hb hbl hx
 have d1 : decide (200 < xs.length) = false := decide_eq_false h200
 go_enter Try.func15, Try.ntmps15
 go_wp2_with fail
 have ga := World.grownBy_alloc w (.cells #[.slice ao xs.length cap, .int .i64 0] 33) none
 refine (rdxEntry_walk (.slice ao xs.length cap) xs _ (HB.out.kn ga) (by have := HLEN.out; omega) HX.out (HL.out.mono ga.size)).mono ?_
 intro e w1 h4
 have g1 := h4.1
 have hst : RSt 33 w.heap.size w1 w.heap.size (.ok xs) :=
   ⟨_, xs, ⟨rfl, row_of g1 (heap_at rfl) (by simp)⟩, HB.out.kn (grown_trans ga g1), ⟨HL.out, Nat.le_refl _⟩, HX.out, by have := HLEN.out; omega⟩
 have hs1 : w.heap.size < w1.heap.size := by have := g1.size; simp at this; omega
 have HST := hid hst
 have G1 := hid (grown_trans ga g1)
 clear hst g1 ga
 cases hp : pLE xs with
 | error n =>
   unfold ReadPost at h4
   rw [hp] at h4
   obtain ⟨_, rfl, hne⟩ := h4
   have HP := hid hp
   clear hp
   have T1 := hid (ztyLE)
   have L1 := hid (show (leZ).length = 65 from rfl)
   go_wp2_with (first | (refine wpList_storeTYg rfl 111 (.tmp 37) (.tmp 298) rfl rfl rfl T1.out (heap_at rfl) (by rw [L1.out]; rfl) ?_; intro W1 gg1 hb1; have HB1 := hid hb1; have GG1 := hid (grown_newR (World.grownBy_alloc w1 _ none) gg1 (Nat.le_refl _)); clear gg1 hb1) | fail)
   refine (rEntry_read _ _ _ (HST.out.kept GG1.out)).mono ?_
   rintro e w2 ⟨v2, y, s2, rfl, hrep, hg2, hst2, hrel⟩
   obtain rfl := hrel.err_of HP.out
   obtain ⟨C2, ht2, hl2⟩ := ty_of_le hrep
   obtain ⟨v3, l3, ⟨he, he2, hrow⟩, _⟩ := hst2
   obtain ⟨r0, r1, r2, r3⟩ := row2 hrow
   have be : ((n : Int) != 0) = true := by simp; omega
   have be' : ((n : Int) == 0) = false := by simp; omega
   have HBX := hid (row_of hg2 HB1.out (by simp; omega))
   have HG2 := hid hg2
   have HROW := hid hrow
   have T2 := hid ht2
   have L2 := hid hl2
   clear hrel he he2 hrow hg2 hrep hne ht2 hl2 r0 r1 r2 r3
   go_wp2_with (first | (refine wpList_storeTYg rfl 111 (.tmp 40) (.tmp 302) rfl rfl rfl T2.out (heap_at rfl) (by rw [L2.out]; rfl) ?_; intro W2 gg2 hb2; have HB2 := hid hb2; have GG2 := hid (grown_newR (World.grownBy_alloc w2 _ none) gg2 (Nat.le_refl _)); clear gg2 hb2; have hbx2 := row_of GG2.out HBX.out (by simp); have HBX2 := hid hbx2; have hrow2 := row_of GG2.out HROW.out (by simp); have HROW2 := hid hrow2; obtain ⟨p0, p1, p2, p3⟩ := row2 hrow2; clear hbx2 hrow2) | (refine wpList_nml (x := 37) (i7 := 7) (T := 111) rfl 309 310 308 .neq 25 (.int .i64 0) (.int .i64 n) rfl rfl rfl rfl rfl rfl (fun q h => by cases h) rfl (Nat.le_of_ble_eq_true rfl) (Nat.le_of_ble_eq_true rfl) (by decide) (by decide) rfl (fun w => by simp [eqGuard, binOp_neq, be]) rfl T1.out (rangeAt_row HBX2.out) ?_) | (go_at_call 62; refine (le_zero _).mono ?_; rintro e w5 ⟨rfl, hg5⟩; have hrow5 := row_of hg5 HROW2.out (by simp); obtain ⟨q0, q1, q2, q3⟩ := row2 hrow5; have HG5 := hid hg5; clear hrow5 hg5) | (go_at_call 18; refine (awake_walk _).mono ?_; rintro e w' ⟨rfl, hg⟩) | fail)
   go_ret
   exact ⟨rfl, grown_trans (grown_trans (grown_trans (grown_newR G1.out (grown_trans (grown_none GG1.out) HG2.out) (Nat.le_refl _)) GG2.out) HG5.out) hg⟩
 | ok p =>
   obtain ⟨x, ys⟩ := p
   unfold ReadPost at h4
   rw [hp] at h4
   obtain ⟨_, v, rv, rfl, hrep, hrest, hrlo⟩ := h4
   have RLO := hid (show ∀ k, rv.ownBlock = some k → w.heap.size + 1 ≤ k from fun k hk => by have := hrlo k hk; simpa using this)
   obtain ⟨ao3, cap3, rfl, _, _⟩ := hrest.shape
   obtain ⟨C1, ht1, hl1⟩ := ty_of_le hrep
   have HP := hid hp
   have HRT := hid hrest
   have HREP := hid hrep
   have T1 := hid ht1
   have L1 := hid hl1
   clear hp hrest hrep ht1 hl1 hrlo
   go_wp2_with (first | (refine wpList_storeTYg rfl 111 (.tmp 37) (.tmp 298) rfl rfl rfl T1.out (heap_at rfl) (by rw [L1.out]; rfl) ?_; intro W1 gg1 hb1; have HB1 := hid hb1; have GG1 := hid (grown_newR (World.grownBy_alloc w1 _ none) gg1 (Nat.le_refl _)); clear gg1 hb1) | fail)
   refine (rEntry_read _ _ _ (HST.out.kept GG1.out)).mono ?_
   rintro e w2 ⟨v2, y, s2, rfl, hrep2, hg2, hst2, hrel⟩
   obtain ⟨rfl, rfl⟩ := hrel.ok_of HP.out
   obtain ⟨C2, ht2, hl2⟩ := ty_of_le hrep2
   obtain ⟨v3, l3, ⟨rfl, hrow⟩, hs3, _⟩ := hst2
   have HBX := hid (row_of hg2 HB1.out (by simp; omega))
   have hk2 := le_kept (le_kept HREP.out GG1.out (fun k hk => by cases hk)) hg2 (fun k hk => by cases hk; simp)
   have HG2 := hid hg2
   have HROW := hid hrow
   have T2 := hid ht2
   have L2 := hid hl2
   have H32 := hid hs3
   have SM := hid (fun (W : World) (g : w2.grownBy W none) => le_same (le_kept hk2 g (fun k hk => by cases hk)) (le_kept hrep2 g (fun k hk => by cases hk)))
   clear hrel hrow hg2 hrep2 ht2 hl2 hs3 hk2
   go_wp2_with (first | (refine wpList_storeTYg rfl 111 (.tmp 40) (.tmp 302) rfl rfl rfl T2.out (heap_at rfl) (by rw [L2.out]; rfl) ?_; intro W2 gg2 hb2; have HB2 := hid hb2; have GG2 := hid (grown_newR (World.grownBy_alloc w2 _ none) gg2 (Nat.le_refl _)); clear gg2 hb2; have hbx2 := row_of GG2.out HBX.out (by simp); have HBX2 := hid hbx2; have hrow2 := row_of GG2.out HROW.out (by simp); have HROW2 := hid hrow2; obtain ⟨p0, p1, p2, p3⟩ := row2 hrow2; clear hbx2 hrow2) | (refine wpList_nml2 (x := 37) (x2 := 40) (i7 := 18) (T := 111) rfl 320 321 319 .eql 25 (.int .i64 0) (.int .i64 0) rfl rfl rfl rfl rfl rfl (fun q h => by cases h; intro e; exact absurd (Option.some.inj e) (by decide)) rfl (Nat.le_of_ble_eq_true rfl) (Nat.le_of_ble_eq_true rfl) (by decide) (by decide) (by decide) (by decide) (by decide) (by decide) rfl (fun w => by simp [eqGuard, binOp_eql]) rfl T1.out (rangeAt_row HBX2.out) rfl T2.out (rangeAt_row HB2.out) ?_) | (go_at_call 62; refine (SM.out _ GG2.out).mono ?_; rintro e w5 ⟨rfl, hg5⟩; have hrow5 := row_of hg5 HROW2.out (by simp); obtain ⟨p0, p1, p2, p3⟩ := row2 hrow5; have HG5 := hid (grown_trans GG2.out hg5); have H3 := hid (H32.out.kn HG5.out); clear hrow5 hg5) | fail)
   go_wp2
   have hrest := HRT.out.kept (grown_trans (grown_trans (grown_none GG1.out) HG2.out) (grown_none HG5.out)) (.inr fun e => by have := RLO.out _ e; omega)
   refine region_list mixed (c46L ys w.heap.size) _ (c46_reg _) (c46_m _) rfl ⟨.inr trivial, .inr trivial, .inr trivial, .inr trivial, .inl rfl, .inr rfl, .inr hrest, .inr rfl, .inr rfl, .inr trivial, .inr trivial, .inr trivial, .inr trivial, .inr trivial, .inr trivial, .inr trivial, .inr trivial, .inr trivial, .inr trivial, .inr trivial, .inr trivial, .inr trivial, .inr trivial, .inr trivial, .inr trivial, .inr trivial, .inr trivial, .inr trivial, .inr trivial, .inr trivial, .inr trivial, .inr trivial, .inr trivial, .inr trivial, .inr trivial, .inr trivial, .inr trivial, .inr trivial, .inr trivial, .inr trivial, .inr trivial, .inr trivial, .inr trivial, .inr trivial, .inr trivial, .inr trivial, .inr trivial, .inr trivial, .inr trivial, .inr trivial, .inr trivial, .inr trivial, .inr trivial, .inr trivial, .inr trivial, .inr trivial, .inr trivial, .inr trivial, .inr trivial, .inr trivial, .inr trivial, .inr trivial, .inr trivial, .inr trivial, .inr trivial, .inr trivial, .inr trivial, .inr trivial, .inr trivial, .inr trivial, .inr trivial, .inr trivial, .inr trivial, .inr trivial, .inr trivial, .inr trivial, .inr trivial, .inr trivial, .inr trivial, .inr trivial, .inr trivial, .inr trivial, .inr trivial, .inr trivial, .inr trivial, .inr trivial, .inr trivial, .inr trivial, .inr trivial, .inr trivial, .inr trivial, .inr trivial, .inr trivial, .inr trivial, .inr trivial, .inr trivial, .inr trivial, .inr trivial, .inr trivial, .inr trivial, .inr trivial, .inr trivial, .inr trivial, .inr trivial, .inr trivial, .inr trivial, .inr trivial, .inr trivial, .inr trivial, .inr trivial, .inr trivial, .inr trivial, .inr trivial, .inr trivial, .inr trivial, .inr trivial, .inr trivial, .inr trivial, .inr trivial, .inr trivial, .inr trivial, .inr trivial, .inr trivial, .inr trivial, .inr trivial, .inr trivial, .inr trivial, .inr trivial, .inr trivial, .inr trivial, .inr trivial, .inr trivial, .inr trivial, .inr trivial, .inr trivial, .inr trivial, .inr trivial, .inr trivial, .inr trivial, .inr trivial, .inr trivial, .inr trivial, .inr trivial, .inr trivial, .inr trivial, .inr trivial, .inr trivial, .inr trivial, .inr trivial, .inr trivial, .inr trivial, .inr trivial, .inr trivial, .inr trivial, .inr trivial, .inr trivial, .inr trivial, .inr trivial, .inr trivial, .inr trivial, .inr trivial, .inr trivial, .inr trivial, .inr trivial, .inr trivial, .inr trivial, .inr trivial, .inr trivial, .inr trivial, .inr trivial, .inr trivial, .inr trivial, .inr trivial, .inr trivial, .inr trivial, .inr trivial, .inr trivial, .inr trivial, .inr trivial, .inr trivial, .inr trivial, .inr trivial, .inr trivial, .inr trivial, .inr trivial, .inr trivial, .inr trivial, .inr trivial, .inr trivial, .inr trivial, .inr trivial, .inr trivial, .inr trivial, .inr trivial, .inr trivial, .inr trivial, .inr trivial, .inr trivial, .inr trivial, .inr trivial, .inr trivial, .inr trivial, .inr trivial, .inr trivial, .inr trivial, .inr trivial, .inr trivial, .inr trivial, .inr trivial, .inr trivial, .inr trivial, .inr trivial, .inr trivial, .inr trivial, .inr trivial, .inr trivial, .inr trivial, .inr trivial, .inr trivial, .inr trivial, .inr trivial, .inr trivial, .inr trivial, .inr trivial, .inr trivial, .inr trivial, .inr trivial, .inr trivial, .inr trivial, .inr trivial, .inr trivial, .inr trivial, .inr trivial, .inr trivial, .inr trivial, .inr trivial, .inr trivial, .inr trivial, .inr trivial, .inr trivial, .inr trivial, .inr trivial, .inr trivial, .inr trivial, .inr trivial, .inr trivial, .inr trivial, .inr trivial, .inr trivial, .inr trivial, .inr trivial, .inr trivial, .inr trivial, .inr trivial, .inr trivial, .inr trivial, .inr trivial, .inr trivial, .inr trivial, .inr trivial, .inr trivial, .inr trivial, .inr trivial, .inr trivial, .inr trivial, .inr trivial, .inr trivial, .inr trivial, .inr trivial, .inr trivial, .inr trivial, .inr trivial, .inr trivial, .inr trivial, .inr trivial, .inr trivial, .inr trivial, .inr trivial, .inr trivial, .inr trivial, .inr trivial, .inr trivial, .inr trivial, .inr trivial, .inr trivial, .inr trivial, .inr trivial, .inr trivial, .inr trivial, .inr trivial, .inr trivial, .inr trivial, .inr trivial, .inr trivial, .inr trivial, .inr trivial, .inr trivial, .inr trivial, .inr trivial, .inr trivial, .inr trivial, .inr trivial, .inr trivial, .inr trivial, .inr trivial, .inr trivial, .inr trivial, .inr trivial, .inr trivial, .inr trivial, .inr trivial, .inr trivial, .inr trivial, .inr trivial, .inr trivial, .inr trivial, .inr trivial, .inr trivial, .inr trivial, .inr trivial, .inr trivial, .inr trivial, .inr trivial, .inr trivial, .inr trivial, .inr trivial, .inr trivial, .inr trivial, .inr trivial, .inr trivial, .inr trivial, .inr trivial, .inr trivial, .inr trivial, .inr trivial, .inr trivial, .inr trivial, .inr trivial, .inr trivial, .inr trivial, .inr trivial, .inr trivial, .inr trivial, .inr trivial, .inr trivial, .inr trivial, .inr trivial, .inr trivial, .inr trivial, .inr trivial, .inr trivial, .inr trivial, .inr trivial, .inr trivial, .inr trivial, .inr trivial, .inr trivial, .inr trivial, .inr trivial, .inr trivial, .inr trivial, .inr trivial, .inr trivial, .inr trivial, .inr trivial, .inr trivial, .inr trivial, .inr trivial, .inr trivial, .inr trivial, .inr trivial, .inr trivial, .inr trivial, .inr trivial, .inr trivial, .inr trivial, .inr trivial, .inr trivial, .inr trivial, .inr trivial, .inr trivial, .inr trivial, .inr trivial, .inl rfl, .inl rfl, .inl rfl, .inl rfl, .inl rfl, .inl rfl, .inl rfl, .inl rfl, .inl rfl, .inl rfl, .inl rfl, .inl rfl, .inl rfl, .inl rfl, .inl rfl, .inl rfl, .inl rfl, .inl rfl, trivial⟩ (c46_ob _ ys w.heap.size _ v3 H3.out (range1 p0)) ?_
   intro a w8 hg8 hd hsz hk8
   have h6 := hk8 4 (by show 4 < 401; decide)
   go_wp2
   refine bodyPost_ret (results_tmp rfl _ _ _) hd ?_
   exact ⟨congrArg _ h6, grown_trans (grown_trans (grown_newR G1.out (grown_trans (grown_none GG1.out) HG2.out) (Nat.le_refl _)) HG5.out) hg8⟩
end Go.Proofs.Ytkeiffccllfkpaa
