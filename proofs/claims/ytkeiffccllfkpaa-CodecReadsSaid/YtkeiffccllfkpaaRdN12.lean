import Derived.Test.YtkeiffccllfkpaaRdN5
import Derived.Test.YtkeiffccllfkpaaRdN19
import Derived.Test.YtkeiffccllfkpaaRdRS
set_option linter.unusedSimpArgs false
set_option linter.unusedVariables false
set_option maxRecDepth 100000
set_option maxHeartbeats 8000000
/- The law CodecReads at records. (printed by gen_law15.py) -/
namespace Go.Proofs.Ytkeiffccllfkpaa
open Go.RowKit
set_option linter.unusedSimpArgs false
set_option linter.unusedVariables false
theorem ty_of_rec {L : Nat} {w : World} {v : Value} {x : Rec} (h : repRec L w v x) : ∃ cs, TY Try.prog 95 cs v ∧ cs.length = 3 := by
 obtain ⟨r, q, rfl, h1, h2⟩ := h
 obtain ⟨_, _, rfl, _, _⟩ := h1.1.shape
 obtain ⟨_, _, rfl, _, _⟩ := h2.1.shape
 exact ⟨_, tyRec _ _ _ rfl rfl, rfl⟩
theorem rec_kept {L : Nat} {w w' : World} {row : Option Nat} {v : Value} {x : Rec} (h : repRec L w v x) (g : w.grownBy w' row) (hr : ∀ k, row = some k → k < L) : repRec L w' v x := by
 obtain ⟨r, q, rfl, h1, h2⟩ := h
 exact ⟨r, q, rfl, ⟨kept_row h1.1 (fun k hk => (h1.2 k hk).1) g hr, fun k hk => ⟨(h1.2 k hk).1, Nat.lt_of_lt_of_le (h1.2 k hk).2 g.size⟩, h1.3⟩, kept_row h2.1 (fun k hk => (h2.2 k hk).1) g hr, fun k hk => ⟨(h2.2 k hk).1, Nat.lt_of_lt_of_le (h2.2 k hk).2 g.size⟩⟩
theorem rec_same {L L' : Nat} {w : World} {v v2 : Value} {x : Rec} (h : repRec L w v x) (h2 : repRec L' w v2 x) : Calls Try.prog 58 #[v, v2] w fun e w' => e = .returned (.bool true) ∧ w.grownBy w' none := by
 obtain ⟨r, q, rfl, a1, a2⟩ := h
 obtain ⟨r', q', rfl, b1, b2⟩ := h2
 exact sameRecord_walk r q r' q' x.row x.seq x.day w a1.1 b1.1 a2.1 b2.1
theorem reads2 (b : Value) (xs : List Nat) (kind : Int) (w : World) (hb : Sl w 1 b xs.length (bv xs)) (hbl : Lo b w.heap.size) (hx : ∀ x ∈ xs, x < 256) (h200 : ¬ 200 < xs.length) (hk : bits .and .i64 kind 7 = 2) :
   Calls Try.prog 15 #[b, .int .i64 kind] w fun e w' => e = .returned (.bool true) ∧ w.grownBy w' none := by
 obtain ⟨ao, cap, rfl, hnc, hcm⟩ := hb.shape
 have HB := hid hb
 have HL := hid hbl
 have HX := hid hx
 have HLEN := hid h200
 clear hb hbl hx
 have d1 : decide (200 < xs.length) = false := decide_eq_false h200
 go_enter Try.func15, Try.ntmps15
 go_wp2_with fail
 have ga := World.grownBy_alloc w (.cells #[.slice ao xs.length cap, .int .i64 0] 33) none
 refine (rdxRecord_walk (.slice ao xs.length cap) xs _ (HB.out.kn ga) (by have := HLEN.out; omega) HX.out (HL.out.mono ga.size)).mono ?_
 intro e w1 h4
 have g1 := h4.1
 have hst : RSt 33 w.heap.size w1 w.heap.size (.ok xs) :=
   ⟨_, xs, ⟨rfl, row_of g1 (heap_at rfl) (by simp)⟩, HB.out.kn (grown_trans ga g1), ⟨HL.out, Nat.le_refl _⟩, HX.out, by have := HLEN.out; omega⟩
 have hs1 : w.heap.size < w1.heap.size := by have := g1.size; simp at this; omega
 have HST := hid hst
 have G1 := hid (grown_trans ga g1)
 clear hst g1 ga
 cases hp : pRec xs with
 | error n =>
   unfold ReadPost at h4
   rw [hp] at h4
   obtain ⟨_, rfl, hne⟩ := h4
   have HP := hid hp
   clear hp
   have T1 := hid (tyRec (.slice none 0 0) (.slice none 0 0) 0 rfl rfl)
   have L1 := hid (show ([Value.slice none 0 0, Value.slice none 0 0, Value.int .i64 0]).length = 3 from rfl)
   go_wp2_with (first | (refine wpList_storeTYg rfl 95 (.tmp 17) (.tmp 127) rfl rfl rfl T1.out (heap_at rfl) (by rw [L1.out]; rfl) ?_; intro W1 gg1 hb1; have HB1 := hid hb1; have GG1 := hid (grown_newR (World.grownBy_alloc w1 _ none) gg1 (Nat.le_refl _)); clear gg1 hb1) | fail)
   refine (rRecord_read _ _ _ (HST.out.kept GG1.out)).mono ?_
   rintro e w2 ⟨v2, y, s2, rfl, hrep, hg2, hst2, hrel⟩
   obtain rfl := hrel.err_of HP.out
   obtain ⟨C2, ht2, hl2⟩ := ty_of_rec hrep
   obtain ⟨v3, l3, ⟨he, he2, hrow⟩, _⟩ := hst2
   obtain ⟨r0, r1, r2, r3⟩ := row2 hrow
   have be : ((n : Int) != 0) = true := by simp; omega
   have be' : ((n : Int) == 0) = false := by simp; omega
   have HBX := hid (row_of hg2 HB1.out (by simp; omega))
   have HG2 := hid hg2
   have HROW := hid hrow
   have T2 := hid ht2
   have L2 := hid hl2
   clear hrel he he2 hrow hg2 hrep hne ht2 hl2 r0 r1 r2 r3
   go_wp2_with (first | (refine wpList_storeTYg rfl 95 (.tmp 20) (.tmp 131) rfl rfl rfl T2.out (heap_at rfl) (by rw [L2.out]; rfl) ?_; intro W2 gg2 hb2; have HB2 := hid hb2; have GG2 := hid (grown_newR (World.grownBy_alloc w2 _ none) gg2 (Nat.le_refl _)); clear gg2 hb2; have hbx2 := row_of GG2.out HBX.out (by simp); have HBX2 := hid hbx2; have hrow2 := row_of GG2.out HROW.out (by simp); have HROW2 := hid hrow2; obtain ⟨p0, p1, p2, p3⟩ := row2 hrow2; clear hbx2 hrow2) | (refine wpList_nml (x := 17) (i7 := 7) (T := 95) rfl 138 139 137 .neq 25 (.int .i64 0) (.int .i64 n) rfl rfl rfl rfl rfl rfl (fun q h => by cases h) rfl (Nat.le_of_ble_eq_true rfl) (Nat.le_of_ble_eq_true rfl) (by decide) (by decide) rfl (fun w => by simp [eqGuard, binOp_neq, be]) rfl T1.out (rangeAt_row HBX2.out) ?_) | (go_at_call 58; refine (sameRecord_walk _ _ _ _ [] [] 0 _ (Sl.nil _ _) (Sl.nil _ _) (Sl.nil _ _) (Sl.nil _ _)).mono ?_; rintro e w5 ⟨rfl, hg5⟩; have hrow5 := row_of hg5 HROW2.out (by simp); obtain ⟨q0, q1, q2, q3⟩ := row2 hrow5; have HG5 := hid hg5; clear hrow5 hg5) | (go_at_call 18; refine (awake_walk _).mono ?_; rintro e w' ⟨rfl, hg⟩) | fail)
   go_ret
   exact ⟨rfl, grown_trans (grown_trans (grown_trans (grown_newR G1.out (grown_trans (grown_none GG1.out) HG2.out) (Nat.le_refl _)) GG2.out) HG5.out) hg⟩
 | ok p =>
   obtain ⟨x, ys⟩ := p
   unfold ReadPost at h4
   rw [hp] at h4
   obtain ⟨_, v, rv, rfl, hrep, hrest, hrlo⟩ := h4
   have RLO := hid (show ∀ k, rv.ownBlock = some k → w.heap.size + 1 ≤ k from fun k hk => by have := hrlo k hk; simpa using this)
   obtain ⟨ao3, cap3, rfl, _, _⟩ := hrest.shape
   obtain ⟨C1, ht1, hl1⟩ := ty_of_rec hrep
   have HP := hid hp
   have HRT := hid hrest
   have HREP := hid hrep
   have T1 := hid ht1
   have L1 := hid hl1
   clear hp hrest hrep ht1 hl1 hrlo
   go_wp2_with (first | (refine wpList_storeTYg rfl 95 (.tmp 17) (.tmp 127) rfl rfl rfl T1.out (heap_at rfl) (by rw [L1.out]; rfl) ?_; intro W1 gg1 hb1; have HB1 := hid hb1; have GG1 := hid (grown_newR (World.grownBy_alloc w1 _ none) gg1 (Nat.le_refl _)); clear gg1 hb1) | fail)
   refine (rRecord_read _ _ _ (HST.out.kept GG1.out)).mono ?_
   rintro e w2 ⟨v2, y, s2, rfl, hrep2, hg2, hst2, hrel⟩
   obtain ⟨rfl, rfl⟩ := hrel.ok_of HP.out
   obtain ⟨C2, ht2, hl2⟩ := ty_of_rec hrep2
   obtain ⟨v3, l3, ⟨rfl, hrow⟩, hs3, _⟩ := hst2
   have HBX := hid (row_of hg2 HB1.out (by simp; omega))
   have hk2 := rec_kept (rec_kept HREP.out GG1.out (fun k hk => by cases hk)) hg2 (fun k hk => by cases hk; simp)
   have HG2 := hid hg2
   have HROW := hid hrow
   have T2 := hid ht2
   have L2 := hid hl2
   have H32 := hid hs3
   have SM := hid (fun (W : World) (g : w2.grownBy W none) => rec_same (rec_kept hk2 g (fun k hk => by cases hk)) (rec_kept hrep2 g (fun k hk => by cases hk)))
   clear hrel hrow hg2 hrep2 ht2 hl2 hs3 hk2
   go_wp2_with (first | (refine wpList_storeTYg rfl 95 (.tmp 20) (.tmp 131) rfl rfl rfl T2.out (heap_at rfl) (by rw [L2.out]; rfl) ?_; intro W2 gg2 hb2; have HB2 := hid hb2; have GG2 := hid (grown_newR (World.grownBy_alloc w2 _ none) gg2 (Nat.le_refl _)); clear gg2 hb2; have hbx2 := row_of GG2.out HBX.out (by simp); have HBX2 := hid hbx2; have hrow2 := row_of GG2.out HROW.out (by simp); have HROW2 := hid hrow2; obtain ⟨p0, p1, p2, p3⟩ := row2 hrow2; clear hbx2 hrow2) | (refine wpList_nml2 (x := 17) (x2 := 20) (i7 := 18) (T := 95) rfl 149 150 148 .eql 25 (.int .i64 0) (.int .i64 0) rfl rfl rfl rfl rfl rfl (fun q h => by cases h; intro e; exact absurd (Option.some.inj e) (by decide)) rfl (Nat.le_of_ble_eq_true rfl) (Nat.le_of_ble_eq_true rfl) (by decide) (by decide) (by decide) (by decide) (by decide) (by decide) rfl (fun w => by simp [eqGuard, binOp_eql]) rfl T1.out (rangeAt_row HBX2.out) rfl T2.out (rangeAt_row HB2.out) ?_) | (go_at_call 58; refine (SM.out _ GG2.out).mono ?_; rintro e w5 ⟨rfl, hg5⟩; have hrow5 := row_of hg5 HROW2.out (by simp); obtain ⟨p0, p1, p2, p3⟩ := row2 hrow5; have HG5 := hid (grown_trans GG2.out hg5); have H3 := hid (H32.out.kn HG5.out); clear hrow5 hg5) | fail)
   go_wp2
   have hrest := HRT.out.kept (grown_trans (grown_trans (grown_none GG1.out) HG2.out) (grown_none HG5.out)) (.inr fun e => by have := RLO.out _ e; omega)
   refine region_list mixed (c46L ys w.heap.size) _ (c46_reg _) (c46_m _) rfl ⟨.inr trivial, .inr trivial, .inr trivial, .inr trivial, .inl rfl, .inr rfl, .inr hrest, .inr rfl, .inr rfl, .inr trivial, .inr trivial, .inr trivial, .inr trivial, .inr trivial, .inr trivial, .inr trivial, .inr trivial, .inr trivial, .inr trivial, .inr trivial, .inr trivial, .inr trivial, .inr trivial, .inr trivial, .inr trivial, .inr trivial, .inr trivial, .inr trivial, .inr trivial, .inr trivial, .inr trivial, .inr trivial, .inr trivial, .inr trivial, .inr trivial, .inr trivial, .inr trivial, .inr trivial, .inr trivial, .inr trivial, .inr trivial, .inr trivial, .inr trivial, .inr trivial, .inr trivial, .inr trivial, .inr trivial, .inr trivial, .inr trivial, .inr trivial, .inr trivial, .inr trivial, .inr trivial, .inr trivial, .inr trivial, .inr trivial, .inr trivial, .inr trivial, .inr trivial, .inr trivial, .inr trivial, .inr trivial, .inr trivial, .inr trivial, .inr trivial, .inr trivial, .inr trivial, .inr trivial, .inr trivial, .inr trivial, .inr trivial, .inr trivial, .inr trivial, .inr trivial, .inr trivial, .inr trivial, .inr trivial, .inr trivial, .inr trivial, .inr trivial, .inr trivial, .inr trivial, .inr trivial, .inr trivial, .inr trivial, .inr trivial, .inr trivial, .inr trivial, .inr trivial, .inr trivial, .inr trivial, .inr trivial, .inr trivial, .inr trivial, .inr trivial, .inr trivial, .inr trivial, .inr trivial, .inr trivial, .inr trivial, .inr trivial, .inr trivial, .inr trivial, .inr trivial, .inr trivial, .inr trivial, .inr trivial, .inr trivial, .inr trivial, .inr trivial, .inr trivial, .inr trivial, .inr trivial, .inr trivial, .inr trivial, .inr trivial, .inr trivial, .inr trivial, .inr trivial, .inr trivial, .inr trivial, .inr trivial, .inr trivial, .inr trivial, .inr trivial, .inr trivial, .inr trivial, .inr trivial, .inr trivial, .inr trivial, .inr trivial, .inr trivial, .inr trivial, .inr trivial, .inr trivial, .inr trivial, .inr trivial, .inr trivial, .inr trivial, .inr trivial, .inr trivial, .inr trivial, .inr trivial, .inr trivial, .inr trivial, .inr trivial, .inr trivial, .inr trivial, .inr trivial, .inr trivial, .inr trivial, .inr trivial, .inr trivial, .inr trivial, .inr trivial, .inr trivial, .inr trivial, .inr trivial, .inr trivial, .inr trivial, .inr trivial, .inr trivial, .inr trivial, .inr trivial, .inr trivial, .inr trivial, .inr trivial, .inr trivial, .inr trivial, .inr trivial, .inr trivial, .inr trivial, .inr trivial, .inr trivial, .inr trivial, .inr trivial, .inr trivial, .inr trivial, .inr trivial, .inr trivial, .inr trivial, .inr trivial, .inr trivial, .inr trivial, .inr trivial, .inr trivial, .inr trivial, .inr trivial, .inr trivial, .inr trivial, .inr trivial, .inr trivial, .inr trivial, .inr trivial, .inr trivial, .inr trivial, .inr trivial, .inr trivial, .inr trivial, .inr trivial, .inr trivial, .inr trivial, .inr trivial, .inr trivial, .inr trivial, .inr trivial, .inr trivial, .inr trivial, .inr trivial, .inr trivial, .inr trivial, .inr trivial, .inr trivial, .inr trivial, .inr trivial, .inr trivial, .inr trivial, .inr trivial, .inr trivial, .inr trivial, .inr trivial, .inr trivial, .inr trivial, .inr trivial, .inr trivial, .inr trivial, .inr trivial, .inr trivial, .inr trivial, .inr trivial, .inr trivial, .inr trivial, .inr trivial, .inr trivial, .inr trivial, .inr trivial, .inr trivial, .inr trivial, .inr trivial, .inr trivial, .inr trivial, .inr trivial, .inr trivial, .inr trivial, .inr trivial, .inr trivial, .inr trivial, .inr trivial, .inr trivial, .inr trivial, .inr trivial, .inr trivial, .inr trivial, .inr trivial, .inr trivial, .inr trivial, .inr trivial, .inr trivial, .inr trivial, .inr trivial, .inr trivial, .inr trivial, .inr trivial, .inr trivial, .inr trivial, .inr trivial, .inr trivial, .inr trivial, .inr trivial, .inr trivial, .inr trivial, .inr trivial, .inr trivial, .inr trivial, .inr trivial, .inr trivial, .inr trivial, .inr trivial, .inr trivial, .inr trivial, .inr trivial, .inr trivial, .inr trivial, .inr trivial, .inr trivial, .inr trivial, .inr trivial, .inr trivial, .inr trivial, .inr trivial, .inr trivial, .inr trivial, .inr trivial, .inr trivial, .inr trivial, .inr trivial, .inr trivial, .inr trivial, .inr trivial, .inr trivial, .inr trivial, .inr trivial, .inr trivial, .inr trivial, .inr trivial, .inr trivial, .inr trivial, .inr trivial, .inr trivial, .inr trivial, .inr trivial, .inr trivial, .inr trivial, .inr trivial, .inr trivial, .inr trivial, .inr trivial, .inr trivial, .inr trivial, .inr trivial, .inr trivial, .inr trivial, .inr trivial, .inr trivial, .inr trivial, .inr trivial, .inr trivial, .inr trivial, .inr trivial, .inr trivial, .inr trivial, .inr trivial, .inr trivial, .inr trivial, .inr trivial, .inr trivial, .inr trivial, .inr trivial, .inr trivial, .inr trivial, .inr trivial, .inr trivial, .inr trivial, .inr trivial, .inr trivial, .inr trivial, .inr trivial, .inr trivial, .inr trivial, .inr trivial, .inr trivial, .inr trivial, .inr trivial, .inr trivial, .inr trivial, .inr trivial, .inr trivial, .inr trivial, .inr trivial, .inr trivial, .inr trivial, .inr trivial, .inr trivial, .inr trivial, .inr trivial, .inr trivial, .inr trivial, .inr trivial, .inr trivial, .inr trivial, .inr trivial, .inr trivial, .inr trivial, .inr trivial, .inr trivial, .inr trivial, .inr trivial, .inr trivial, .inr trivial, .inr trivial, .inr trivial, .inr trivial, .inr trivial, .inl rfl, .inl rfl, .inl rfl, .inl rfl, .inl rfl, .inl rfl, .inl rfl, .inl rfl, .inl rfl, .inl rfl, .inl rfl, .inl rfl, .inl rfl, .inl rfl, .inl rfl, .inl rfl, .inl rfl, .inl rfl, trivial⟩ (c46_ob _ ys w.heap.size _ v3 H3.out (range1 p0)) ?_
   intro a w8 hg8 hd hsz hk8
   have h6 := hk8 4 (by show 4 < 401; decide)
   go_wp2
   refine bodyPost_ret (results_tmp rfl _ _ _) hd ?_
   exact ⟨congrArg _ h6, grown_trans (grown_trans (grown_newR G1.out (grown_trans (grown_none GG1.out) HG2.out) (Nat.le_refl _)) HG5.out) hg8⟩
end Go.Proofs.Ytkeiffccllfkpaa
/- The law CodecReads at bags. (printed by gen_law15.py) -/
namespace Go.Proofs.Ytkeiffccllfkpaa
open Go.RowKit
set_option linter.unusedSimpArgs false
set_option linter.unusedVariables false
theorem bag_at {L R : Nat} {w w2 : World} {v : Value} {x : List En} {row : Option Nat} (h : repBag L w v x) (g : w.grownBy w2 row) (hR : ∀ k, row = some k → k < L) : ∃ ps : List (Value × En), ps.map (·.2) = x ∧ RBag w2 v ps := by
 obtain ⟨ps, h1, h2, h3, h4⟩ := h
 have key : ∀ (z : Value), (∀ k, z.ownBlock = some k → L ≤ k) → z.ownBlock = none ∨ z.ownBlock ≠ row := fun z hz => by
   cases hb : z.ownBlock with
   | none => exact .inl rfl
   | some k => exact .inr fun e => by have := hz k hb; have := hR k e.symm; omega
 exact ⟨ps, h1, h2.kept g (key v fun k hk => (h3 k hk).1), fun p hp => (h4 p hp).1.kept g (key p.1 fun k hk => ((h4 p hp).2 k hk).1)⟩
theorem reads3 (b : Value) (xs : List Nat) (kind : Int) (w : World) (hb : Sl w 1 b xs.length (bv xs)) (hbl : Lo b w.heap.size) (hx : ∀ x ∈ xs, x < 256) (h200 : ¬ 200 < xs.length) (hk : bits .and .i64 kind 7 = 3) :
   Calls Try.prog 15 #[b, .int .i64 kind] w fun e w' => e = .returned (.bool true) ∧ w.grownBy w' none := by
 obtain ⟨ao, cap, rfl, hnc, hcm⟩ := hb.shape
 have HB := hid hb
 have HL := hid hbl
 have HX := hid hx
 have HLEN := hid h200
 clear hb hbl hx
 have d1 : decide (200 < xs.length) = false := decide_eq_false h200
 go_enter Try.func15, Try.ntmps15
 go_wp2_with fail
 have ga := World.grownBy_alloc w (.cells #[.slice ao xs.length cap, .int .i64 0] 33) none
 refine (rdxBag_walk (.slice ao xs.length cap) xs _ (HB.out.kn ga) (by have := HLEN.out; omega) HX.out (HL.out.mono ga.size)).mono ?_
 intro e w1 h4
 have g1 := h4.1
 have hst : RSt 33 w.heap.size w1 w.heap.size (.ok xs) :=
   ⟨_, xs, ⟨rfl, row_of g1 (heap_at rfl) (by simp)⟩, HB.out.kn (grown_trans ga g1), ⟨HL.out, Nat.le_refl _⟩, HX.out, by have := HLEN.out; omega⟩
 have hs1 : w.heap.size < w1.heap.size := by have := g1.size; simp at this; omega
 have HST := hid hst
 have G1 := hid (grown_trans ga g1)
 clear hst g1 ga
 cases hp : pBag xs with
 | error n =>
   unfold ReadPost at h4
   rw [hp] at h4
   obtain ⟨_, rfl, hne⟩ := h4
   have HP := hid hp
   clear hp
   go_wp2_with fail
   refine (rBag_read _ _ _ HST.out).mono ?_
   rintro e w2 ⟨v2, y, s2, rfl, hrep, hg2, hst2, hrel⟩
   obtain rfl := hrel.err_of HP.out
   obtain ⟨v3, l3, ⟨he, he2, hrow⟩, _⟩ := hst2
   obtain ⟨r0, r1, r2, r3⟩ := row2 hrow
   have be : ((n : Int) != 0) = true := by simp; omega
   have be' : ((n : Int) == 0) = false := by simp; omega
   have HG2 := hid hg2
   skip
   clear hrel he he2 hrow hg2 hrep hne
   go_wp2_with (go_at_call 18; refine (awake_walk _).mono ?_; rintro e w' ⟨rfl, hg⟩)
   go_ret
   exact ⟨rfl, grown_trans (grown_newR G1.out HG2.out (Nat.le_refl _)) hg⟩
 | ok p =>
   obtain ⟨x, ys⟩ := p
   unfold ReadPost at h4
   rw [hp] at h4
   obtain ⟨_, v, rv, rfl, hrep, hrest, hrlo⟩ := h4
   have RLO := hid (show ∀ k, rv.ownBlock = some k → w.heap.size + 1 ≤ k from fun k hk => by have := hrlo k hk; simpa using this)
   clear hrlo
   obtain ⟨ao3, cap3, rfl, _, _⟩ := hrest.shape
   have HP := hid hp
   have HRT := hid hrest
   have HREP := hid hrep
   clear hp hrest hrep
   go_wp2_with fail
   refine (rBag_read _ _ _ HST.out).mono ?_
   rintro e w2 ⟨v2, y, s2, rfl, hrep2, hg2, hst2, hrel⟩
   obtain ⟨rfl, rfl⟩ := hrel.ok_of HP.out
   obtain ⟨v3, l3, ⟨rfl, hrow⟩, hs3, _⟩ := hst2
   obtain ⟨r0, r1, r2, r3⟩ := row2 hrow
   have HG2 := hid hg2
   have HROW := hid hrow
   obtain ⟨ps, hps, rb1⟩ := bag_at (R := w.heap.size) HREP.out hg2 (fun k hk => by cases hk; simp)
   obtain ⟨qs, hqs, rb2⟩ := bag_at (R := w.heap.size) hrep2 (World.grownBy.refl _ none) (fun k hk => by cases hk)
   have hpq : ps.map (·.2) = qs.map (·.2) := hps.trans hqs.symm
   have RB1 := hid rb1
   have RB2 := hid rb2
   have HPQ := hid hpq
   clear rb1 rb2 hpq hps hqs
   clear hrel hrow hg2 hrep2
   go_wp2_with (go_at_call 50; refine (sameBag_walk _ _ _ _ _ RB1.out RB2.out HPQ.out).mono ?_; rintro e w5 ⟨rfl, hg5⟩; have hrow5 := row_of hg5 HROW.out (by simp); obtain ⟨p0, p1, p2, p3⟩ := row2 hrow5; have HG5 := hid hg5; have H3 := hid (hs3.kn hg5); clear hrow5 hg5)
   go_wp2
   have hrest := HRT.out.kept (grown_trans HG2.out (grown_none HG5.out)) (.inr fun e => by have := RLO.out _ e; omega)
   refine region_list mixed (c46L ys w.heap.size) _ (c46_reg _) (c46_m _) rfl ⟨.inr trivial, .inr trivial, .inr trivial, .inr trivial, .inl rfl, .inr rfl, .inr hrest, .inr rfl, .inr rfl, .inr trivial, .inr trivial, .inr trivial, .inr trivial, .inr trivial, .inr trivial, .inr trivial, .inr trivial, .inr trivial, .inr trivial, .inr trivial, .inr trivial, .inr trivial, .inr trivial, .inr trivial, .inr trivial, .inr trivial, .inr trivial, .inr trivial, .inr trivial, .inr trivial, .inr trivial, .inr trivial, .inr trivial, .inr trivial, .inr trivial, .inr trivial, .inr trivial, .inr trivial, .inr trivial, .inr trivial, .inr trivial, .inr trivial, .inr trivial, .inr trivial, .inr trivial, .inr trivial, .inr trivial, .inr trivial, .inr trivial, .inr trivial, .inr trivial, .inr trivial, .inr trivial, .inr trivial, .inr trivial, .inr trivial, .inr trivial, .inr trivial, .inr trivial, .inr trivial, .inr trivial, .inr trivial, .inr trivial, .inr trivial, .inr trivial, .inr trivial, .inr trivial, .inr trivial, .inr trivial, .inr trivial, .inr trivial, .inr trivial, .inr trivial, .inr trivial, .inr trivial, .inr trivial, .inr trivial, .inr trivial, .inr trivial, .inr trivial, .inr trivial, .inr trivial, .inr trivial, .inr trivial, .inr trivial, .inr trivial, .inr trivial, .inr trivial, .inr trivial, .inr trivial, .inr trivial, .inr trivial, .inr trivial, .inr trivial, .inr trivial, .inr trivial, .inr trivial, .inr trivial, .inr trivial, .inr trivial, .inr trivial, .inr trivial, .inr trivial, .inr trivial, .inr trivial, .inr trivial, .inr trivial, .inr trivial, .inr trivial, .inr trivial, .inr trivial, .inr trivial, .inr trivial, .inr trivial, .inr trivial, .inr trivial, .inr trivial, .inr trivial, .inr trivial, .inr trivial, .inr trivial, .inr trivial, .inr trivial, .inr trivial, .inr trivial, .inr trivial, .inr trivial, .inr trivial, .inr trivial, .inr trivial, .inr trivial, .inr trivial, .inr trivial, .inr trivial, .inr trivial, .inr trivial, .inr trivial, .inr trivial, .inr trivial, .inr trivial, .inr trivial, .inr trivial, .inr trivial, .inr trivial, .inr trivial, .inr trivial, .inr trivial, .inr trivial, .inr trivial, .inr trivial, .inr trivial, .inr trivial, .inr trivial, .inr trivial, .inr trivial, .inr trivial, .inr trivial, .inr trivial, .inr trivial, .inr trivial, .inr trivial, .inr trivial, .inr trivial, .inr trivial, .inr trivial, .inr trivial, .inr trivial, .inr trivial, .inr trivial, .inr trivial, .inr trivial, .inr trivial, .inr trivial, .inr trivial, .inr trivial, .inr trivial, .inr trivial, .inr trivial, .inr trivial, .inr trivial, .inr trivial, .inr trivial, .inr trivial, .inr trivial, .inr trivial, .inr trivial, .inr trivial, .inr trivial, .inr trivial, .inr trivial, .inr trivial, .inr trivial, .inr trivial, .inr trivial, .inr trivial, .inr trivial, .inr trivial, .inr trivial, .inr trivial, .inr trivial, .inr trivial, .inr trivial, .inr trivial, .inr trivial, .inr trivial, .inr trivial, .inr trivial, .inr trivial, .inr trivial, .inr trivial, .inr trivial, .inr trivial, .inr trivial, .inr trivial, .inr trivial, .inr trivial, .inr trivial, .inr trivial, .inr trivial, .inr trivial, .inr trivial, .inr trivial, .inr trivial, .inr trivial, .inr trivial, .inr trivial, .inr trivial, .inr trivial, .inr trivial, .inr trivial, .inr trivial, .inr trivial, .inr trivial, .inr trivial, .inr trivial, .inr trivial, .inr trivial, .inr trivial, .inr trivial, .inr trivial, .inr trivial, .inr trivial, .inr trivial, .inr trivial, .inr trivial, .inr trivial, .inr trivial, .inr trivial, .inr trivial, .inr trivial, .inr trivial, .inr trivial, .inr trivial, .inr trivial, .inr trivial, .inr trivial, .inr trivial, .inr trivial, .inr trivial, .inr trivial, .inr trivial, .inr trivial, .inr trivial, .inr trivial, .inr trivial, .inr trivial, .inr trivial, .inr trivial, .inr trivial, .inr trivial, .inr trivial, .inr trivial, .inr trivial, .inr trivial, .inr trivial, .inr trivial, .inr trivial, .inr trivial, .inr trivial, .inr trivial, .inr trivial, .inr trivial, .inr trivial, .inr trivial, .inr trivial, .inr trivial, .inr trivial, .inr trivial, .inr trivial, .inr trivial, .inr trivial, .inr trivial, .inr trivial, .inr trivial, .inr trivial, .inr trivial, .inr trivial, .inr trivial, .inr trivial, .inr trivial, .inr trivial, .inr trivial, .inr trivial, .inr trivial, .inr trivial, .inr trivial, .inr trivial, .inr trivial, .inr trivial, .inr trivial, .inr trivial, .inr trivial, .inr trivial, .inr trivial, .inr trivial, .inr trivial, .inr trivial, .inr trivial, .inr trivial, .inr trivial, .inr trivial, .inr trivial, .inr trivial, .inr trivial, .inr trivial, .inr trivial, .inr trivial, .inr trivial, .inr trivial, .inr trivial, .inr trivial, .inr trivial, .inr trivial, .inr trivial, .inr trivial, .inr trivial, .inr trivial, .inr trivial, .inr trivial, .inr trivial, .inr trivial, .inr trivial, .inr trivial, .inr trivial, .inr trivial, .inr trivial, .inr trivial, .inr trivial, .inr trivial, .inr trivial, .inr trivial, .inr trivial, .inr trivial, .inr trivial, .inr trivial, .inr trivial, .inr trivial, .inr trivial, .inr trivial, .inr trivial, .inr trivial, .inr trivial, .inr trivial, .inr trivial, .inr trivial, .inr trivial, .inr trivial, .inr trivial, .inr trivial, .inr trivial, .inr trivial, .inr trivial, .inr trivial, .inr trivial, .inr trivial, .inr trivial, .inr trivial, .inr trivial, .inr trivial, .inr trivial, .inr trivial, .inr trivial, .inr trivial, .inl rfl, .inl rfl, .inl rfl, .inl rfl, .inl rfl, .inl rfl, .inl rfl, .inl rfl, .inl rfl, .inl rfl, .inl rfl, .inl rfl, .inl rfl, .inl rfl, .inl rfl, .inl rfl, .inl rfl, .inl rfl, trivial⟩ (c46_ob _ ys w.heap.size _ v3 H3.out (range1 p0)) ?_
   intro a w8 hg8 hd hsz hk8
   have h6 := hk8 4 (by show 4 < 401; decide)
   go_wp2
   refine bodyPost_ret (results_tmp rfl _ _ _) hd ?_
   exact ⟨congrArg _ h6, grown_trans (grown_trans (grown_newR G1.out HG2.out (Nat.le_refl _)) HG5.out) hg8⟩
end Go.Proofs.Ytkeiffccllfkpaa
/- SameChange decided. -/
namespace Go.Proofs.Ytkeiffccllfkpaa
open Go.RowKit
set_option linter.unusedSimpArgs false
deriving instance DecidableEq for Ch
theorem sameChange_walk (r1 r2 : Value) (x y : Ch) (w : World) (h1 : Sl w 3 r1 x.row.length (x.row.flatMap vcells)) (h2 : Sl w 3 r2 y.row.length (y.row.flatMap vcells)) :
   Calls Try.prog 54 #[valCh x r1, valCh y r2] w fun e w' => e = .returned (.bool (decide (x = y))) ∧ w.grownBy w' none := by
 obtain ⟨ao, acap, rfl, hnc, hcm⟩ := h1.shape
 obtain ⟨bo, bcap, rfl, hnc2, hcm2⟩ := h2.shape
 obtain ⟨ak, ag, ad, au, al, ⟨aq, ai, ax⟩, ac, ⟨av, aj, az⟩⟩ := x
 obtain ⟨bk, bg, bd, bu, bl, ⟨bq, bi, bx⟩, bc, ⟨bv, bj, bz⟩⟩ := y
 simp only at h1 h2 hnc hnc2 ⊢
 have HA := hid h1
 have HB := hid h2
 clear h1 h2
 show Calls Try.prog 54 #[.agg #[.int .i64 ak, .int .i64 ag, .int .i64 ad, .int .i64 au, .slice ao al.length acap, .int .i64 aq, .int .i64 ai, .string ax, .int .i64 ac, .int .i64 av, .int .i64 aj, .string az], .agg #[.int .i64 bk, .int .i64 bg, .int .i64 bd, .int .i64 bu, .slice bo bl.length bcap, .int .i64 bq, .int .i64 bi, .string bx, .int .i64 bc, .int .i64 bv, .int .i64 bj, .string bz]] w _
 by_cases e0 : ak = bk
 · subst e0
   by_cases e1 : ag = bg
   · subst e1
     by_cases e2 : ad = bd
     · subst e2
       by_cases e3 : au = bu
       · subst e3
         by_cases e4 : al = bl
         · subst e4
           by_cases e5 : aq = bq
           · subst e5
             by_cases e6 : ai = bi
             · subst e6
               by_cases e7 : ax = bx
               · subst e7
                 by_cases e8 : ac = bc
                 · subst e8
                   by_cases e9 : av = bv
                   · subst e9
                     by_cases e10 : aj = bj
                     · subst e10
                       by_cases e11 : az = bz
                       · subst e11
                         have HD := hid (decide_eq_true (p := (⟨ak, ag, ad, au, al, ⟨aq, ai, ax⟩, ac, ⟨av, aj, az⟩⟩ : Ch) = ⟨ak, ag, ad, au, al, ⟨aq, ai, ax⟩, ac, ⟨av, aj, az⟩⟩) rfl)
                         go_enter Try.func54, Try.ntmps54
                         go_wp2_with fail
                         have ga := World.grownBy_alloc w (.cells #[.int .i64 ak, .int .i64 ag, .int .i64 ad, .int .i64 au, .slice ao al.length acap, .int .i64 aq, .int .i64 ai, .string ax, .int .i64 ac, .int .i64 av, .int .i64 aj, .string az] 86) none
                         have gb := grown_trans ga (World.grownBy_alloc _ (.cells #[.int .i64 ak, .int .i64 ag, .int .i64 ad, .int .i64 au, .slice bo al.length bcap, .int .i64 aq, .int .i64 ai, .string ax, .int .i64 ac, .int .i64 av, .int .i64 aj, .string az] 86) none)
                         refine (sameRow_walk _ _ al al _ (HA.out.kn gb) (HB.out.kn gb)).mono ?_
                         rintro e w1 ⟨rfl, hg1⟩
                         have hb1 := row_of hg1 (row_of (World.grownBy_alloc _ (.cells #[.int .i64 ak, .int .i64 ag, .int .i64 ad, .int .i64 au, .slice bo al.length bcap, .int .i64 aq, .int .i64 ai, .string ax, .int .i64 ac, .int .i64 av, .int .i64 aj, .string az] 86) none) (heap_at (w := w) (o := (.cells #[.int .i64 ak, .int .i64 ag, .int .i64 ad, .int .i64 au, .slice ao al.length acap, .int .i64 aq, .int .i64 ai, .string ax, .int .i64 ac, .int .i64 av, .int .i64 aj, .string az] 86)) rfl) (by simp)) (by simp)
                         have hb2 := row_of hg1 (heap_at (w := w.alloc (.cells #[.int .i64 ak, .int .i64 ag, .int .i64 ad, .int .i64 au, .slice ao al.length acap, .int .i64 aq, .int .i64 ai, .string ax, .int .i64 ac, .int .i64 av, .int .i64 aj, .string az] 86)) (o := (.cells #[.int .i64 ak, .int .i64 ag, .int .i64 ad, .int .i64 au, .slice bo al.length bcap, .int .i64 aq, .int .i64 ai, .string ax, .int .i64 ac, .int .i64 av, .int .i64 aj, .string az] 86)) (n := w.heap.size + 1) (by simp)) (by simp)
                         have G1 := hid (grown_trans gb hg1)
                         have y0 : ∀ j, w1.cell? ⟨w.heap.size, j, none⟩ = (#[.int .i64 ak, .int .i64 ag, .int .i64 ad, .int .i64 au, .slice ao al.length acap, .int .i64 aq, .int .i64 ai, .string ax, .int .i64 ac, .int .i64 av, .int .i64 aj, .string az] : Array Value)[j]? := fun j => cell_of_row w1 _ j _ _ _ hb1
                         have y1 : ∀ j, w1.cell? ⟨w.heap.size + 1, j, none⟩ = (#[.int .i64 ak, .int .i64 ag, .int .i64 ad, .int .i64 au, .slice bo al.length bcap, .int .i64 aq, .int .i64 ai, .string ax, .int .i64 ac, .int .i64 av, .int .i64 aj, .string az] : Array Value)[j]? := fun j => cell_of_row w1 _ j _ _ _ hb2
                         clear hg1 gb ga hb1 hb2
                         go_wp2
                         go_ret
                         exact ⟨by rw [HD.out]; rfl, G1.out⟩
                       · have HD := hid (decide_eq_false (p := (⟨ak, ag, ad, au, al, ⟨aq, ai, ax⟩, ac, ⟨av, aj, az⟩⟩ : Ch) = ⟨ak, ag, ad, au, al, ⟨aq, ai, ax⟩, ac, ⟨av, aj, bz⟩⟩) (fun h => e11 (by simpa using congrArg (fun c : Ch => c.val.text) h)))
                         have d11 : ¬ az.toList = bz.toList := fun e => e11 (toList_inj e)
                         go_enter Try.func54, Try.ntmps54
                         go_wp2_with fail
                         have ga := World.grownBy_alloc w (.cells #[.int .i64 ak, .int .i64 ag, .int .i64 ad, .int .i64 au, .slice ao al.length acap, .int .i64 aq, .int .i64 ai, .string ax, .int .i64 ac, .int .i64 av, .int .i64 aj, .string az] 86) none
                         have gb := grown_trans ga (World.grownBy_alloc _ (.cells #[.int .i64 ak, .int .i64 ag, .int .i64 ad, .int .i64 au, .slice bo al.length bcap, .int .i64 aq, .int .i64 ai, .string ax, .int .i64 ac, .int .i64 av, .int .i64 aj, .string bz] 86) none)
                         refine (sameRow_walk _ _ al al _ (HA.out.kn gb) (HB.out.kn gb)).mono ?_
                         rintro e w1 ⟨rfl, hg1⟩
                         have hb1 := row_of hg1 (row_of (World.grownBy_alloc _ (.cells #[.int .i64 ak, .int .i64 ag, .int .i64 ad, .int .i64 au, .slice bo al.length bcap, .int .i64 aq, .int .i64 ai, .string ax, .int .i64 ac, .int .i64 av, .int .i64 aj, .string bz] 86) none) (heap_at (w := w) (o := (.cells #[.int .i64 ak, .int .i64 ag, .int .i64 ad, .int .i64 au, .slice ao al.length acap, .int .i64 aq, .int .i64 ai, .string ax, .int .i64 ac, .int .i64 av, .int .i64 aj, .string az] 86)) rfl) (by simp)) (by simp)
                         have hb2 := row_of hg1 (heap_at (w := w.alloc (.cells #[.int .i64 ak, .int .i64 ag, .int .i64 ad, .int .i64 au, .slice ao al.length acap, .int .i64 aq, .int .i64 ai, .string ax, .int .i64 ac, .int .i64 av, .int .i64 aj, .string az] 86)) (o := (.cells #[.int .i64 ak, .int .i64 ag, .int .i64 ad, .int .i64 au, .slice bo al.length bcap, .int .i64 aq, .int .i64 ai, .string ax, .int .i64 ac, .int .i64 av, .int .i64 aj, .string bz] 86)) (n := w.heap.size + 1) (by simp)) (by simp)
                         have G1 := hid (grown_trans gb hg1)
                         have y0 : ∀ j, w1.cell? ⟨w.heap.size, j, none⟩ = (#[.int .i64 ak, .int .i64 ag, .int .i64 ad, .int .i64 au, .slice ao al.length acap, .int .i64 aq, .int .i64 ai, .string ax, .int .i64 ac, .int .i64 av, .int .i64 aj, .string az] : Array Value)[j]? := fun j => cell_of_row w1 _ j _ _ _ hb1
                         have y1 : ∀ j, w1.cell? ⟨w.heap.size + 1, j, none⟩ = (#[.int .i64 ak, .int .i64 ag, .int .i64 ad, .int .i64 au, .slice bo al.length bcap, .int .i64 aq, .int .i64 ai, .string ax, .int .i64 ac, .int .i64 av, .int .i64 aj, .string bz] : Array Value)[j]? := fun j => cell_of_row w1 _ j _ _ _ hb2
                         clear hg1 gb ga hb1 hb2
                         go_wp2
                         go_ret
                         exact ⟨by rw [HD.out]; rfl, G1.out⟩
                     · have HD := hid (decide_eq_false (p := (⟨ak, ag, ad, au, al, ⟨aq, ai, ax⟩, ac, ⟨av, aj, az⟩⟩ : Ch) = ⟨ak, ag, ad, au, al, ⟨aq, ai, ax⟩, ac, ⟨av, bj, bz⟩⟩) (fun h => e10 (by simpa using congrArg (fun c : Ch => c.val.int) h)))
                       go_enter Try.func54, Try.ntmps54
                       go_wp2_with fail
                       have ga := World.grownBy_alloc w (.cells #[.int .i64 ak, .int .i64 ag, .int .i64 ad, .int .i64 au, .slice ao al.length acap, .int .i64 aq, .int .i64 ai, .string ax, .int .i64 ac, .int .i64 av, .int .i64 aj, .string az] 86) none
                       have gb := grown_trans ga (World.grownBy_alloc _ (.cells #[.int .i64 ak, .int .i64 ag, .int .i64 ad, .int .i64 au, .slice bo al.length bcap, .int .i64 aq, .int .i64 ai, .string ax, .int .i64 ac, .int .i64 av, .int .i64 bj, .string bz] 86) none)
                       refine (sameRow_walk _ _ al al _ (HA.out.kn gb) (HB.out.kn gb)).mono ?_
                       rintro e w1 ⟨rfl, hg1⟩
                       have hb1 := row_of hg1 (row_of (World.grownBy_alloc _ (.cells #[.int .i64 ak, .int .i64 ag, .int .i64 ad, .int .i64 au, .slice bo al.length bcap, .int .i64 aq, .int .i64 ai, .string ax, .int .i64 ac, .int .i64 av, .int .i64 bj, .string bz] 86) none) (heap_at (w := w) (o := (.cells #[.int .i64 ak, .int .i64 ag, .int .i64 ad, .int .i64 au, .slice ao al.length acap, .int .i64 aq, .int .i64 ai, .string ax, .int .i64 ac, .int .i64 av, .int .i64 aj, .string az] 86)) rfl) (by simp)) (by simp)
                       have hb2 := row_of hg1 (heap_at (w := w.alloc (.cells #[.int .i64 ak, .int .i64 ag, .int .i64 ad, .int .i64 au, .slice ao al.length acap, .int .i64 aq, .int .i64 ai, .string ax, .int .i64 ac, .int .i64 av, .int .i64 aj, .string az] 86)) (o := (.cells #[.int .i64 ak, .int .i64 ag, .int .i64 ad, .int .i64 au, .slice bo al.length bcap, .int .i64 aq, .int .i64 ai, .string ax, .int .i64 ac, .int .i64 av, .int .i64 bj, .string bz] 86)) (n := w.heap.size + 1) (by simp)) (by simp)
                       have G1 := hid (grown_trans gb hg1)
                       have y0 : ∀ j, w1.cell? ⟨w.heap.size, j, none⟩ = (#[.int .i64 ak, .int .i64 ag, .int .i64 ad, .int .i64 au, .slice ao al.length acap, .int .i64 aq, .int .i64 ai, .string ax, .int .i64 ac, .int .i64 av, .int .i64 aj, .string az] : Array Value)[j]? := fun j => cell_of_row w1 _ j _ _ _ hb1
                       have y1 : ∀ j, w1.cell? ⟨w.heap.size + 1, j, none⟩ = (#[.int .i64 ak, .int .i64 ag, .int .i64 ad, .int .i64 au, .slice bo al.length bcap, .int .i64 aq, .int .i64 ai, .string ax, .int .i64 ac, .int .i64 av, .int .i64 bj, .string bz] : Array Value)[j]? := fun j => cell_of_row w1 _ j _ _ _ hb2
                       clear hg1 gb ga hb1 hb2
                       go_wp2
                       go_ret
                       exact ⟨by rw [HD.out]; rfl, G1.out⟩
                   · have HD := hid (decide_eq_false (p := (⟨ak, ag, ad, au, al, ⟨aq, ai, ax⟩, ac, ⟨av, aj, az⟩⟩ : Ch) = ⟨ak, ag, ad, au, al, ⟨aq, ai, ax⟩, ac, ⟨bv, bj, bz⟩⟩) (fun h => e9 (by simpa using congrArg (fun c : Ch => c.val.kind) h)))
                     go_enter Try.func54, Try.ntmps54
                     go_wp2_with fail
                     have ga := World.grownBy_alloc w (.cells #[.int .i64 ak, .int .i64 ag, .int .i64 ad, .int .i64 au, .slice ao al.length acap, .int .i64 aq, .int .i64 ai, .string ax, .int .i64 ac, .int .i64 av, .int .i64 aj, .string az] 86) none
                     have gb := grown_trans ga (World.grownBy_alloc _ (.cells #[.int .i64 ak, .int .i64 ag, .int .i64 ad, .int .i64 au, .slice bo al.length bcap, .int .i64 aq, .int .i64 ai, .string ax, .int .i64 ac, .int .i64 bv, .int .i64 bj, .string bz] 86) none)
                     refine (sameRow_walk _ _ al al _ (HA.out.kn gb) (HB.out.kn gb)).mono ?_
                     rintro e w1 ⟨rfl, hg1⟩
                     have hb1 := row_of hg1 (row_of (World.grownBy_alloc _ (.cells #[.int .i64 ak, .int .i64 ag, .int .i64 ad, .int .i64 au, .slice bo al.length bcap, .int .i64 aq, .int .i64 ai, .string ax, .int .i64 ac, .int .i64 bv, .int .i64 bj, .string bz] 86) none) (heap_at (w := w) (o := (.cells #[.int .i64 ak, .int .i64 ag, .int .i64 ad, .int .i64 au, .slice ao al.length acap, .int .i64 aq, .int .i64 ai, .string ax, .int .i64 ac, .int .i64 av, .int .i64 aj, .string az] 86)) rfl) (by simp)) (by simp)
                     have hb2 := row_of hg1 (heap_at (w := w.alloc (.cells #[.int .i64 ak, .int .i64 ag, .int .i64 ad, .int .i64 au, .slice ao al.length acap, .int .i64 aq, .int .i64 ai, .string ax, .int .i64 ac, .int .i64 av, .int .i64 aj, .string az] 86)) (o := (.cells #[.int .i64 ak, .int .i64 ag, .int .i64 ad, .int .i64 au, .slice bo al.length bcap, .int .i64 aq, .int .i64 ai, .string ax, .int .i64 ac, .int .i64 bv, .int .i64 bj, .string bz] 86)) (n := w.heap.size + 1) (by simp)) (by simp)
                     have G1 := hid (grown_trans gb hg1)
                     have y0 : ∀ j, w1.cell? ⟨w.heap.size, j, none⟩ = (#[.int .i64 ak, .int .i64 ag, .int .i64 ad, .int .i64 au, .slice ao al.length acap, .int .i64 aq, .int .i64 ai, .string ax, .int .i64 ac, .int .i64 av, .int .i64 aj, .string az] : Array Value)[j]? := fun j => cell_of_row w1 _ j _ _ _ hb1
                     have y1 : ∀ j, w1.cell? ⟨w.heap.size + 1, j, none⟩ = (#[.int .i64 ak, .int .i64 ag, .int .i64 ad, .int .i64 au, .slice bo al.length bcap, .int .i64 aq, .int .i64 ai, .string ax, .int .i64 ac, .int .i64 bv, .int .i64 bj, .string bz] : Array Value)[j]? := fun j => cell_of_row w1 _ j _ _ _ hb2
                     clear hg1 gb ga hb1 hb2
                     go_wp2
                     go_ret
                     exact ⟨by rw [HD.out]; rfl, G1.out⟩
                 · have HD := hid (decide_eq_false (p := (⟨ak, ag, ad, au, al, ⟨aq, ai, ax⟩, ac, ⟨av, aj, az⟩⟩ : Ch) = ⟨ak, ag, ad, au, al, ⟨aq, ai, ax⟩, bc, ⟨bv, bj, bz⟩⟩) (fun h => e8 (by simpa using congrArg (fun c : Ch => c.col) h)))
                   go_enter Try.func54, Try.ntmps54
                   go_wp2_with fail
                   have ga := World.grownBy_alloc w (.cells #[.int .i64 ak, .int .i64 ag, .int .i64 ad, .int .i64 au, .slice ao al.length acap, .int .i64 aq, .int .i64 ai, .string ax, .int .i64 ac, .int .i64 av, .int .i64 aj, .string az] 86) none
                   have gb := grown_trans ga (World.grownBy_alloc _ (.cells #[.int .i64 ak, .int .i64 ag, .int .i64 ad, .int .i64 au, .slice bo al.length bcap, .int .i64 aq, .int .i64 ai, .string ax, .int .i64 bc, .int .i64 bv, .int .i64 bj, .string bz] 86) none)
                   refine (sameRow_walk _ _ al al _ (HA.out.kn gb) (HB.out.kn gb)).mono ?_
                   rintro e w1 ⟨rfl, hg1⟩
                   have hb1 := row_of hg1 (row_of (World.grownBy_alloc _ (.cells #[.int .i64 ak, .int .i64 ag, .int .i64 ad, .int .i64 au, .slice bo al.length bcap, .int .i64 aq, .int .i64 ai, .string ax, .int .i64 bc, .int .i64 bv, .int .i64 bj, .string bz] 86) none) (heap_at (w := w) (o := (.cells #[.int .i64 ak, .int .i64 ag, .int .i64 ad, .int .i64 au, .slice ao al.length acap, .int .i64 aq, .int .i64 ai, .string ax, .int .i64 ac, .int .i64 av, .int .i64 aj, .string az] 86)) rfl) (by simp)) (by simp)
                   have hb2 := row_of hg1 (heap_at (w := w.alloc (.cells #[.int .i64 ak, .int .i64 ag, .int .i64 ad, .int .i64 au, .slice ao al.length acap, .int .i64 aq, .int .i64 ai, .string ax, .int .i64 ac, .int .i64 av, .int .i64 aj, .string az] 86)) (o := (.cells #[.int .i64 ak, .int .i64 ag, .int .i64 ad, .int .i64 au, .slice bo al.length bcap, .int .i64 aq, .int .i64 ai, .string ax, .int .i64 bc, .int .i64 bv, .int .i64 bj, .string bz] 86)) (n := w.heap.size + 1) (by simp)) (by simp)
                   have G1 := hid (grown_trans gb hg1)
                   have y0 : ∀ j, w1.cell? ⟨w.heap.size, j, none⟩ = (#[.int .i64 ak, .int .i64 ag, .int .i64 ad, .int .i64 au, .slice ao al.length acap, .int .i64 aq, .int .i64 ai, .string ax, .int .i64 ac, .int .i64 av, .int .i64 aj, .string az] : Array Value)[j]? := fun j => cell_of_row w1 _ j _ _ _ hb1
                   have y1 : ∀ j, w1.cell? ⟨w.heap.size + 1, j, none⟩ = (#[.int .i64 ak, .int .i64 ag, .int .i64 ad, .int .i64 au, .slice bo al.length bcap, .int .i64 aq, .int .i64 ai, .string ax, .int .i64 bc, .int .i64 bv, .int .i64 bj, .string bz] : Array Value)[j]? := fun j => cell_of_row w1 _ j _ _ _ hb2
                   clear hg1 gb ga hb1 hb2
                   go_wp2
                   go_ret
                   exact ⟨by rw [HD.out]; rfl, G1.out⟩
               · have HD := hid (decide_eq_false (p := (⟨ak, ag, ad, au, al, ⟨aq, ai, ax⟩, ac, ⟨av, aj, az⟩⟩ : Ch) = ⟨ak, ag, ad, au, al, ⟨aq, ai, bx⟩, bc, ⟨bv, bj, bz⟩⟩) (fun h => e7 (by simpa using congrArg (fun c : Ch => c.key.text) h)))
                 have d7 : ¬ ax.toList = bx.toList := fun e => e7 (toList_inj e)
                 go_enter Try.func54, Try.ntmps54
                 go_wp2_with fail
                 have ga := World.grownBy_alloc w (.cells #[.int .i64 ak, .int .i64 ag, .int .i64 ad, .int .i64 au, .slice ao al.length acap, .int .i64 aq, .int .i64 ai, .string ax, .int .i64 ac, .int .i64 av, .int .i64 aj, .string az] 86) none
                 have gb := grown_trans ga (World.grownBy_alloc _ (.cells #[.int .i64 ak, .int .i64 ag, .int .i64 ad, .int .i64 au, .slice bo al.length bcap, .int .i64 aq, .int .i64 ai, .string bx, .int .i64 bc, .int .i64 bv, .int .i64 bj, .string bz] 86) none)
                 refine (sameRow_walk _ _ al al _ (HA.out.kn gb) (HB.out.kn gb)).mono ?_
                 rintro e w1 ⟨rfl, hg1⟩
                 have hb1 := row_of hg1 (row_of (World.grownBy_alloc _ (.cells #[.int .i64 ak, .int .i64 ag, .int .i64 ad, .int .i64 au, .slice bo al.length bcap, .int .i64 aq, .int .i64 ai, .string bx, .int .i64 bc, .int .i64 bv, .int .i64 bj, .string bz] 86) none) (heap_at (w := w) (o := (.cells #[.int .i64 ak, .int .i64 ag, .int .i64 ad, .int .i64 au, .slice ao al.length acap, .int .i64 aq, .int .i64 ai, .string ax, .int .i64 ac, .int .i64 av, .int .i64 aj, .string az] 86)) rfl) (by simp)) (by simp)
                 have hb2 := row_of hg1 (heap_at (w := w.alloc (.cells #[.int .i64 ak, .int .i64 ag, .int .i64 ad, .int .i64 au, .slice ao al.length acap, .int .i64 aq, .int .i64 ai, .string ax, .int .i64 ac, .int .i64 av, .int .i64 aj, .string az] 86)) (o := (.cells #[.int .i64 ak, .int .i64 ag, .int .i64 ad, .int .i64 au, .slice bo al.length bcap, .int .i64 aq, .int .i64 ai, .string bx, .int .i64 bc, .int .i64 bv, .int .i64 bj, .string bz] 86)) (n := w.heap.size + 1) (by simp)) (by simp)
                 have G1 := hid (grown_trans gb hg1)
                 have y0 : ∀ j, w1.cell? ⟨w.heap.size, j, none⟩ = (#[.int .i64 ak, .int .i64 ag, .int .i64 ad, .int .i64 au, .slice ao al.length acap, .int .i64 aq, .int .i64 ai, .string ax, .int .i64 ac, .int .i64 av, .int .i64 aj, .string az] : Array Value)[j]? := fun j => cell_of_row w1 _ j _ _ _ hb1
                 have y1 : ∀ j, w1.cell? ⟨w.heap.size + 1, j, none⟩ = (#[.int .i64 ak, .int .i64 ag, .int .i64 ad, .int .i64 au, .slice bo al.length bcap, .int .i64 aq, .int .i64 ai, .string bx, .int .i64 bc, .int .i64 bv, .int .i64 bj, .string bz] : Array Value)[j]? := fun j => cell_of_row w1 _ j _ _ _ hb2
                 clear hg1 gb ga hb1 hb2
                 go_wp2
                 go_ret
                 exact ⟨by rw [HD.out]; rfl, G1.out⟩
             · have HD := hid (decide_eq_false (p := (⟨ak, ag, ad, au, al, ⟨aq, ai, ax⟩, ac, ⟨av, aj, az⟩⟩ : Ch) = ⟨ak, ag, ad, au, al, ⟨aq, bi, bx⟩, bc, ⟨bv, bj, bz⟩⟩) (fun h => e6 (by simpa using congrArg (fun c : Ch => c.key.int) h)))
               go_enter Try.func54, Try.ntmps54
               go_wp2_with fail
               have ga := World.grownBy_alloc w (.cells #[.int .i64 ak, .int .i64 ag, .int .i64 ad, .int .i64 au, .slice ao al.length acap, .int .i64 aq, .int .i64 ai, .string ax, .int .i64 ac, .int .i64 av, .int .i64 aj, .string az] 86) none
               have gb := grown_trans ga (World.grownBy_alloc _ (.cells #[.int .i64 ak, .int .i64 ag, .int .i64 ad, .int .i64 au, .slice bo al.length bcap, .int .i64 aq, .int .i64 bi, .string bx, .int .i64 bc, .int .i64 bv, .int .i64 bj, .string bz] 86) none)
               refine (sameRow_walk _ _ al al _ (HA.out.kn gb) (HB.out.kn gb)).mono ?_
               rintro e w1 ⟨rfl, hg1⟩
               have hb1 := row_of hg1 (row_of (World.grownBy_alloc _ (.cells #[.int .i64 ak, .int .i64 ag, .int .i64 ad, .int .i64 au, .slice bo al.length bcap, .int .i64 aq, .int .i64 bi, .string bx, .int .i64 bc, .int .i64 bv, .int .i64 bj, .string bz] 86) none) (heap_at (w := w) (o := (.cells #[.int .i64 ak, .int .i64 ag, .int .i64 ad, .int .i64 au, .slice ao al.length acap, .int .i64 aq, .int .i64 ai, .string ax, .int .i64 ac, .int .i64 av, .int .i64 aj, .string az] 86)) rfl) (by simp)) (by simp)
               have hb2 := row_of hg1 (heap_at (w := w.alloc (.cells #[.int .i64 ak, .int .i64 ag, .int .i64 ad, .int .i64 au, .slice ao al.length acap, .int .i64 aq, .int .i64 ai, .string ax, .int .i64 ac, .int .i64 av, .int .i64 aj, .string az] 86)) (o := (.cells #[.int .i64 ak, .int .i64 ag, .int .i64 ad, .int .i64 au, .slice bo al.length bcap, .int .i64 aq, .int .i64 bi, .string bx, .int .i64 bc, .int .i64 bv, .int .i64 bj, .string bz] 86)) (n := w.heap.size + 1) (by simp)) (by simp)
               have G1 := hid (grown_trans gb hg1)
               have y0 : ∀ j, w1.cell? ⟨w.heap.size, j, none⟩ = (#[.int .i64 ak, .int .i64 ag, .int .i64 ad, .int .i64 au, .slice ao al.length acap, .int .i64 aq, .int .i64 ai, .string ax, .int .i64 ac, .int .i64 av, .int .i64 aj, .string az] : Array Value)[j]? := fun j => cell_of_row w1 _ j _ _ _ hb1
               have y1 : ∀ j, w1.cell? ⟨w.heap.size + 1, j, none⟩ = (#[.int .i64 ak, .int .i64 ag, .int .i64 ad, .int .i64 au, .slice bo al.length bcap, .int .i64 aq, .int .i64 bi, .string bx, .int .i64 bc, .int .i64 bv, .int .i64 bj, .string bz] : Array Value)[j]? := fun j => cell_of_row w1 _ j _ _ _ hb2
               clear hg1 gb ga hb1 hb2
               go_wp2
               go_ret
               exact ⟨by rw [HD.out]; rfl, G1.out⟩
           · have HD := hid (decide_eq_false (p := (⟨ak, ag, ad, au, al, ⟨aq, ai, ax⟩, ac, ⟨av, aj, az⟩⟩ : Ch) = ⟨ak, ag, ad, au, al, ⟨bq, bi, bx⟩, bc, ⟨bv, bj, bz⟩⟩) (fun h => e5 (by simpa using congrArg (fun c : Ch => c.key.kind) h)))
             go_enter Try.func54, Try.ntmps54
             go_wp2_with fail
             have ga := World.grownBy_alloc w (.cells #[.int .i64 ak, .int .i64 ag, .int .i64 ad, .int .i64 au, .slice ao al.length acap, .int .i64 aq, .int .i64 ai, .string ax, .int .i64 ac, .int .i64 av, .int .i64 aj, .string az] 86) none
             have gb := grown_trans ga (World.grownBy_alloc _ (.cells #[.int .i64 ak, .int .i64 ag, .int .i64 ad, .int .i64 au, .slice bo al.length bcap, .int .i64 bq, .int .i64 bi, .string bx, .int .i64 bc, .int .i64 bv, .int .i64 bj, .string bz] 86) none)
             refine (sameRow_walk _ _ al al _ (HA.out.kn gb) (HB.out.kn gb)).mono ?_
             rintro e w1 ⟨rfl, hg1⟩
             have hb1 := row_of hg1 (row_of (World.grownBy_alloc _ (.cells #[.int .i64 ak, .int .i64 ag, .int .i64 ad, .int .i64 au, .slice bo al.length bcap, .int .i64 bq, .int .i64 bi, .string bx, .int .i64 bc, .int .i64 bv, .int .i64 bj, .string bz] 86) none) (heap_at (w := w) (o := (.cells #[.int .i64 ak, .int .i64 ag, .int .i64 ad, .int .i64 au, .slice ao al.length acap, .int .i64 aq, .int .i64 ai, .string ax, .int .i64 ac, .int .i64 av, .int .i64 aj, .string az] 86)) rfl) (by simp)) (by simp)
             have hb2 := row_of hg1 (heap_at (w := w.alloc (.cells #[.int .i64 ak, .int .i64 ag, .int .i64 ad, .int .i64 au, .slice ao al.length acap, .int .i64 aq, .int .i64 ai, .string ax, .int .i64 ac, .int .i64 av, .int .i64 aj, .string az] 86)) (o := (.cells #[.int .i64 ak, .int .i64 ag, .int .i64 ad, .int .i64 au, .slice bo al.length bcap, .int .i64 bq, .int .i64 bi, .string bx, .int .i64 bc, .int .i64 bv, .int .i64 bj, .string bz] 86)) (n := w.heap.size + 1) (by simp)) (by simp)
             have G1 := hid (grown_trans gb hg1)
             have y0 : ∀ j, w1.cell? ⟨w.heap.size, j, none⟩ = (#[.int .i64 ak, .int .i64 ag, .int .i64 ad, .int .i64 au, .slice ao al.length acap, .int .i64 aq, .int .i64 ai, .string ax, .int .i64 ac, .int .i64 av, .int .i64 aj, .string az] : Array Value)[j]? := fun j => cell_of_row w1 _ j _ _ _ hb1
             have y1 : ∀ j, w1.cell? ⟨w.heap.size + 1, j, none⟩ = (#[.int .i64 ak, .int .i64 ag, .int .i64 ad, .int .i64 au, .slice bo al.length bcap, .int .i64 bq, .int .i64 bi, .string bx, .int .i64 bc, .int .i64 bv, .int .i64 bj, .string bz] : Array Value)[j]? := fun j => cell_of_row w1 _ j _ _ _ hb2
             clear hg1 gb ga hb1 hb2
             go_wp2
             go_ret
             exact ⟨by rw [HD.out]; rfl, G1.out⟩
         · have HD := hid (decide_eq_false (p := (⟨ak, ag, ad, au, al, ⟨aq, ai, ax⟩, ac, ⟨av, aj, az⟩⟩ : Ch) = ⟨ak, ag, ad, au, bl, ⟨bq, bi, bx⟩, bc, ⟨bv, bj, bz⟩⟩) (fun h => e4 (by simpa using congrArg (fun c : Ch => c.row) h)))
           have d4 : decide (al = bl) = false := decide_eq_false e4
           go_enter Try.func54, Try.ntmps54
           go_wp2_with fail
           have ga := World.grownBy_alloc w (.cells #[.int .i64 ak, .int .i64 ag, .int .i64 ad, .int .i64 au, .slice ao al.length acap, .int .i64 aq, .int .i64 ai, .string ax, .int .i64 ac, .int .i64 av, .int .i64 aj, .string az] 86) none
           have gb := grown_trans ga (World.grownBy_alloc _ (.cells #[.int .i64 ak, .int .i64 ag, .int .i64 ad, .int .i64 au, .slice bo bl.length bcap, .int .i64 bq, .int .i64 bi, .string bx, .int .i64 bc, .int .i64 bv, .int .i64 bj, .string bz] 86) none)
           refine (sameRow_walk _ _ al bl _ (HA.out.kn gb) (HB.out.kn gb)).mono ?_
           rintro e w1 ⟨rfl, hg1⟩
           have hb1 := row_of hg1 (row_of (World.grownBy_alloc _ (.cells #[.int .i64 ak, .int .i64 ag, .int .i64 ad, .int .i64 au, .slice bo bl.length bcap, .int .i64 bq, .int .i64 bi, .string bx, .int .i64 bc, .int .i64 bv, .int .i64 bj, .string bz] 86) none) (heap_at (w := w) (o := (.cells #[.int .i64 ak, .int .i64 ag, .int .i64 ad, .int .i64 au, .slice ao al.length acap, .int .i64 aq, .int .i64 ai, .string ax, .int .i64 ac, .int .i64 av, .int .i64 aj, .string az] 86)) rfl) (by simp)) (by simp)
           have hb2 := row_of hg1 (heap_at (w := w.alloc (.cells #[.int .i64 ak, .int .i64 ag, .int .i64 ad, .int .i64 au, .slice ao al.length acap, .int .i64 aq, .int .i64 ai, .string ax, .int .i64 ac, .int .i64 av, .int .i64 aj, .string az] 86)) (o := (.cells #[.int .i64 ak, .int .i64 ag, .int .i64 ad, .int .i64 au, .slice bo bl.length bcap, .int .i64 bq, .int .i64 bi, .string bx, .int .i64 bc, .int .i64 bv, .int .i64 bj, .string bz] 86)) (n := w.heap.size + 1) (by simp)) (by simp)
           have G1 := hid (grown_trans gb hg1)
           have y0 : ∀ j, w1.cell? ⟨w.heap.size, j, none⟩ = (#[.int .i64 ak, .int .i64 ag, .int .i64 ad, .int .i64 au, .slice ao al.length acap, .int .i64 aq, .int .i64 ai, .string ax, .int .i64 ac, .int .i64 av, .int .i64 aj, .string az] : Array Value)[j]? := fun j => cell_of_row w1 _ j _ _ _ hb1
           have y1 : ∀ j, w1.cell? ⟨w.heap.size + 1, j, none⟩ = (#[.int .i64 ak, .int .i64 ag, .int .i64 ad, .int .i64 au, .slice bo bl.length bcap, .int .i64 bq, .int .i64 bi, .string bx, .int .i64 bc, .int .i64 bv, .int .i64 bj, .string bz] : Array Value)[j]? := fun j => cell_of_row w1 _ j _ _ _ hb2
           clear hg1 gb ga hb1 hb2
           go_wp2
           go_ret
           exact ⟨by rw [HD.out]; rfl, G1.out⟩
       · have HD := hid (decide_eq_false (p := (⟨ak, ag, ad, au, al, ⟨aq, ai, ax⟩, ac, ⟨av, aj, az⟩⟩ : Ch) = ⟨ak, ag, ad, bu, bl, ⟨bq, bi, bx⟩, bc, ⟨bv, bj, bz⟩⟩) (fun h => e3 (by simpa using congrArg (fun c : Ch => c.table) h)))
         go_enter Try.func54, Try.ntmps54
         go_wp2
         go_ret
         exact ⟨by rw [HD.out]; rfl, grown_trans (World.grownBy_alloc _ _ _) (World.grownBy_alloc _ _ _)⟩
     · have HD := hid (decide_eq_false (p := (⟨ak, ag, ad, au, al, ⟨aq, ai, ax⟩, ac, ⟨av, aj, az⟩⟩ : Ch) = ⟨ak, ag, bd, bu, bl, ⟨bq, bi, bx⟩, bc, ⟨bv, bj, bz⟩⟩) (fun h => e2 (by simpa using congrArg (fun c : Ch => c.day) h)))
       go_enter Try.func54, Try.ntmps54
       go_wp2
       go_ret
       exact ⟨by rw [HD.out]; rfl, grown_trans (World.grownBy_alloc _ _ _) (World.grownBy_alloc _ _ _)⟩
   · have HD := hid (decide_eq_false (p := (⟨ak, ag, ad, au, al, ⟨aq, ai, ax⟩, ac, ⟨av, aj, az⟩⟩ : Ch) = ⟨ak, bg, bd, bu, bl, ⟨bq, bi, bx⟩, bc, ⟨bv, bj, bz⟩⟩) (fun h => e1 (by simpa using congrArg (fun c : Ch => c.seq) h)))
     go_enter Try.func54, Try.ntmps54
     go_wp2
     go_ret
     exact ⟨by rw [HD.out]; rfl, grown_trans (World.grownBy_alloc _ _ _) (World.grownBy_alloc _ _ _)⟩
 · have HD := hid (decide_eq_false (p := (⟨ak, ag, ad, au, al, ⟨aq, ai, ax⟩, ac, ⟨av, aj, az⟩⟩ : Ch) = ⟨bk, bg, bd, bu, bl, ⟨bq, bi, bx⟩, bc, ⟨bv, bj, bz⟩⟩) (fun h => e0 (by simpa using congrArg (fun c : Ch => c.kind) h)))
   go_enter Try.func54, Try.ntmps54
   go_wp2
   go_ret
   exact ⟨by rw [HD.out]; rfl, grown_trans (World.grownBy_alloc _ _ _) (World.grownBy_alloc _ _ _)⟩
end Go.Proofs.Ytkeiffccllfkpaa
