import Derived.Test.YtkeiffccllfkpaaRdN5
import Derived.Test.YtkeiffccllfkpaaRdN12
import Derived.Test.YtkeiffccllfkpaaRdRK6
set_option linter.unusedSimpArgs false
set_option linter.unusedVariables false
set_option maxRecDepth 100000
set_option maxHeartbeats 8000000
/- The law CodecReads at holds. (printed by gen_law15.py) -/
namespace Go.Proofs.Ytkeiffccllfkpaa
open Go.RowKit
set_option linter.unusedSimpArgs false
set_option linter.unusedVariables false
theorem reads7 (b : Value) (xs : List Nat) (kind : Int) (w : World) (hb : Sl w 1 b xs.length (bv xs)) (hbl : Lo b w.heap.size) (hx : ∀ x ∈ xs, x < 256) (h200 : ¬ 200 < xs.length) (hk : bits .and .i64 kind 7 = 7) :
   Calls Try.prog 15 #[b, .int .i64 kind] w fun e w' => e = .returned (.bool true) ∧ w.grownBy w' none := by
 obtain ⟨ao, cap, rfl, hnc, hcm⟩ := hb.shape
 have HB := hid hb
 have HL := hid hbl
 have HX := hid hx
 have HLEN := hid h200
 clear hb hbl hx
 have d1 : decide (200 < xs.length) = false := decide_eq_false h200
 go_enter Try.func15, Try.ntmps15
 go_wp2_with fail
 have ga := World.grownBy_alloc w (.cells #[.slice ao xs.length cap, .int .i64 0] 33) none
 refine (rdxHold_walk (.slice ao xs.length cap) xs _ (HB.out.kn ga) (by have := HLEN.out; omega) HX.out (HL.out.mono ga.size)).mono ?_
 intro e w1 h4
 have g1 := h4.1
 have hst : RSt 33 w.heap.size w1 w.heap.size (.ok xs) :=
   ⟨_, xs, ⟨rfl, row_of g1 (heap_at rfl) (by simp)⟩, HB.out.kn (grown_trans ga g1), ⟨HL.out, Nat.le_refl _⟩, HX.out, by have := HLEN.out; omega⟩
 have hs1 : w.heap.size < w1.heap.size := by have := g1.size; simp at this; omega
 have HST := hid hst
 have G1 := hid (grown_trans ga g1)
 clear hst g1 ga
 cases hp : pHld xs with
 | error n =>
   unfold ReadPost at h4
   rw [hp] at h4
   obtain ⟨_, rfl, hne⟩ := h4
   have HP := hid hp
   clear hp
   go_wp2_with fail
   have gz := World.grownBy_alloc w1 (.cells #[.int .i64 0, .int .i64 0, .string ⟨#[]⟩, .int .i64 0, .int .i64 0, .string ⟨#[]⟩, .int .i64 0, .int .i64 0, .int .i64 0] 109) none
   refine (rHold_read _ _ _ (HST.out.kept gz)).mono ?_
   rintro e w2 ⟨v2, y, s2, rfl, rfl, hg2, hst2, hrel⟩
   obtain rfl := hrel.err_of HP.out
   obtain ⟨v3, l3, ⟨he, he2, hrow⟩, _⟩ := hst2
   obtain ⟨y1, y2, ⟨y3, ⟨yk, yn, yt⟩⟩, y4, y5, y6⟩ := y
   have be : ((n : Int) != 0) = true := by simp; omega
   have be' : ((n : Int) == 0) = false := by simp; omega
   have hbx := row_of hg2 (heap_at (w := w1) (o := .cells #[.int .i64 0, .int .i64 0, .string ⟨#[]⟩, .int .i64 0, .int .i64 0, .string ⟨#[]⟩, .int .i64 0, .int .i64 0, .int .i64 0] 109) rfl) (by simp; omega)
   have hsz2 : w1.heap.size + 1 ≤ w2.heap.size := by have := hg2.size; simpa using this
   have a0 := World.grownBy_alloc w2 (.cells #[.int .i64 y1, .int .i64 y2, .string y3, .int .i64 yk, .int .i64 yn, .string yt, .int .i64 y4, .int .i64 y5, .int .i64 y6] 109) none
   have hrow2 := row_of a0 hrow (by simp)
   obtain ⟨r0, r1, r2, r3⟩ := row2 hrow2
   have a1 := (fun j => cell_of_row _ _ j _ _ _ (row_of a0 hbx (by simp)))
   have a2 := (fun j => frozen_of_row _ _ j _ _ (row_of a0 hbx (by simp)))
   have hby := heap_at (w := w2) (o := .cells #[.int .i64 y1, .int .i64 y2, .string y3, .int .i64 yk, .int .i64 yn, .string yt, .int .i64 y4, .int .i64 y5, .int .i64 y6] 109) rfl
   have b1 := (fun j => cell_of_row _ _ j _ _ _ hby)
   have b2 := (fun j => frozen_of_row _ _ j _ _ hby)
   have HG2 := hid (grown_newR G1.out (grown_trans (grown_none gz) hg2) (Nat.le_refl _))
   have HA0 := hid a0
   clear hrel he he2 hrow hg2 hne hrow2 hbx hby gz a0
   rw [show valHld ⟨y1, y2, ⟨y3, ⟨yk, yn, yt⟩⟩, y4, y5, y6⟩ = .agg #[.int .i64 y1, .int .i64 y2, .string y3, .int .i64 yk, .int .i64 yn, .string yt, .int .i64 y4, .int .i64 y5, .int .i64 y6] from rfl]
   go_wp2_with fail
   generalize w2.alloc (.cells #[.int .i64 y1, .int .i64 y2, .string y3, .int .i64 yk, .int .i64 yn, .string yt, .int .i64 y4, .int .i64 y5, .int .i64 y6] 109) = W at *
   go_region
   go_wp2_with (go_at_call 18; refine (awake_walk _).mono ?_; rintro e w' ⟨rfl, hg⟩)
   go_ret
   exact ⟨rfl, grown_trans (grown_trans (grown_trans HG2.out HA0.out) (grown_drew W)) hg⟩
 | ok p =>
   obtain ⟨x, ys⟩ := p
   unfold ReadPost at h4
   rw [hp] at h4
   obtain ⟨_, v, rv, rfl, hrep, hrest, hrlo⟩ := h4
   have RLO := hid (show ∀ k, rv.ownBlock = some k → w.heap.size + 1 ≤ k from fun k hk => by have := hrlo k hk; simpa using this)
   obtain ⟨ao3, cap3, rfl, _, _⟩ := hrest.shape
   obtain rfl := hrep
   obtain ⟨x1, x2, ⟨x3, ⟨xk, xn, xt⟩⟩, x4, x5, x6⟩ := x
   have HP := hid hp
   have HRT := hid hrest
   clear hp hrest hrlo
   rw [show valHld ⟨x1, x2, ⟨x3, ⟨xk, xn, xt⟩⟩, x4, x5, x6⟩ = .agg #[.int .i64 x1, .int .i64 x2, .string x3, .int .i64 xk, .int .i64 xn, .string xt, .int .i64 x4, .int .i64 x5, .int .i64 x6] from rfl]
   go_wp2_with fail
   have gz := World.grownBy_alloc w1 (.cells #[.int .i64 x1, .int .i64 x2, .string x3, .int .i64 xk, .int .i64 xn, .string xt, .int .i64 x4, .int .i64 x5, .int .i64 x6] 109) none
   refine (rHold_read _ _ _ (HST.out.kept gz)).mono ?_
   rintro e w2 ⟨v2, y, s2, rfl, rfl, hg2, hst2, hrel⟩
   obtain ⟨rfl, rfl⟩ := hrel.ok_of HP.out
   obtain ⟨v3, l3, ⟨rfl, hrow⟩, hs3, _⟩ := hst2
   have hbx := row_of hg2 (heap_at (w := w1) (o := .cells #[.int .i64 x1, .int .i64 x2, .string x3, .int .i64 xk, .int .i64 xn, .string xt, .int .i64 x4, .int .i64 x5, .int .i64 x6] 109) rfl) (by simp; omega)
   have hsz2 : w1.heap.size + 1 ≤ w2.heap.size := by have := hg2.size; simpa using this
   have a0 := World.grownBy_alloc w2 (.cells #[.int .i64 x1, .int .i64 x2, .string x3, .int .i64 xk, .int .i64 xn, .string xt, .int .i64 x4, .int .i64 x5, .int .i64 x6] 109) none
   have hrow2 := row_of a0 hrow (by simp)
   obtain ⟨r0, r1, r2, r3⟩ := row2 hrow2
   have a1 := (fun j => cell_of_row _ _ j _ _ _ (row_of a0 hbx (by simp)))
   have a2 := (fun j => frozen_of_row _ _ j _ _ (row_of a0 hbx (by simp)))
   have hby := heap_at (w := w2) (o := .cells #[.int .i64 x1, .int .i64 x2, .string x3, .int .i64 xk, .int .i64 xn, .string xt, .int .i64 x4, .int .i64 x5, .int .i64 x6] 109) rfl
   have b1 := (fun j => cell_of_row _ _ j _ _ _ hby)
   have b2 := (fun j => frozen_of_row _ _ j _ _ hby)
   have HGR := hid (grown_trans (grown_none (row := some w.heap.size) gz) hg2)
   have HG2 := hid (grown_newR G1.out (grown_trans (grown_none gz) hg2) (Nat.le_refl _))
   have HA0 := hid a0
   have H32 := hid hs3
   clear hrel hrow hg2 hrow2 hbx hby gz a0 hs3
   rw [show valHld ⟨x1, x2, ⟨x3, ⟨xk, xn, xt⟩⟩, x4, x5, x6⟩ = .agg #[.int .i64 x1, .int .i64 x2, .string x3, .int .i64 xk, .int .i64 xn, .string xt, .int .i64 x4, .int .i64 x5, .int .i64 x6] from rfl]
   go_wp2_with fail
   generalize w2.alloc (.cells #[.int .i64 x1, .int .i64 x2, .string x3, .int .i64 xk, .int .i64 xn, .string xt, .int .i64 x4, .int .i64 x5, .int .i64 x6] 109) = W at *
   go_region
   have H3 := hid (H32.out.kn (grown_trans HA0.out (grown_drew W)))
   have p0 : W.drew.cell? ⟨w.heap.size, 0, none⟩ = some v3 := r0
   go_wp2
   have hrest := HRT.out.kept (grown_trans HGR.out (grown_none (grown_trans HA0.out (grown_drew W)))) (.inr fun e => by have := RLO.out _ e; omega)
   refine region_list mixed (c46L ys w.heap.size) _ (c46_reg _) (c46_m _) rfl ⟨.inr trivial, .inr trivial, .inr trivial, .inr trivial, .inl rfl, .inr rfl, .inr hrest, .inr rfl, .inr rfl, .inr trivial, .inr trivial, .inr trivial, .inr trivial, .inr trivial, .inr trivial, .inr trivial, .inr trivial, .inr trivial, .inr trivial, .inr trivial, .inr trivial, .inr trivial, .inr trivial, .inr trivial, .inr trivial, .inr trivial, .inr trivial, .inr trivial, .inr trivial, .inr trivial, .inr trivial, .inr trivial, .inr trivial, .inr trivial, .inr trivial, .inr trivial, .inr trivial, .inr trivial, .inr trivial, .inr trivial, .inr trivial, .inr trivial, .inr trivial, .inr trivial, .inr trivial, .inr trivial, .inr trivial, .inr trivial, .inr trivial, .inr trivial, .inr trivial, .inr trivial, .inr trivial, .inr trivial, .inr trivial, .inr trivial, .inr trivial, .inr trivial, .inr trivial, .inr trivial, .inr trivial, .inr trivial, .inr trivial, .inr trivial, .inr trivial, .inr trivial, .inr trivial, .inr trivial, .inr trivial, .inr trivial, .inr trivial, .inr trivial, .inr trivial, .inr trivial, .inr trivial, .inr trivial, .inr trivial, .inr trivial, .inr trivial, .inr trivial, .inr trivial, .inr trivial, .inr trivial, .inr trivial, .inr trivial, .inr trivial, .inr trivial, .inr trivial, .inr trivial, .inr trivial, .inr trivial, .inr trivial, .inr trivial, .inr trivial, .inr trivial, .inr trivial, .inr trivial, .inr trivial, .inr trivial, .inr trivial, .inr trivial, .inr trivial, .inr trivial, .inr trivial, .inr trivial, .inr trivial, .inr trivial, .inr trivial, .inr trivial, .inr trivial, .inr trivial, .inr trivial, .inr trivial, .inr trivial, .inr trivial, .inr trivial, .inr trivial, .inr trivial, .inr trivial, .inr trivial, .inr trivial, .inr trivial, .inr trivial, .inr trivial, .inr trivial, .inr trivial, .inr trivial, .inr trivial, .inr trivial, .inr trivial, .inr trivial, .inr trivial, .inr trivial, .inr trivial, .inr trivial, .inr trivial, .inr trivial, .inr trivial, .inr trivial, .inr trivial, .inr trivial, .inr trivial, .inr trivial, .inr trivial, .inr trivial, .inr trivial, .inr trivial, .inr trivial, .inr trivial, .inr trivial, .inr trivial, .inr trivial, .inr trivial, .inr trivial, .inr trivial, .inr trivial, .inr trivial, .inr trivial, .inr trivial, .inr trivial, .inr trivial, .inr trivial, .inr trivial, .inr trivial, .inr trivial, .inr trivial, .inr trivial, .inr trivial, .inr trivial, .inr trivial, .inr trivial, .inr trivial, .inr trivial, .inr trivial, .inr trivial, .inr trivial, .inr trivial, .inr trivial, .inr trivial, .inr trivial, .inr trivial, .inr trivial, .inr trivial, .inr trivial, .inr trivial, .inr trivial, .inr trivial, .inr trivial, .inr trivial, .inr trivial, .inr trivial, .inr trivial, .inr trivial, .inr trivial, .inr trivial, .inr trivial, .inr trivial, .inr trivial, .inr trivial, .inr trivial, .inr trivial, .inr trivial, .inr trivial, .inr trivial, .inr trivial, .inr trivial, .inr trivial, .inr trivial, .inr trivial, .inr trivial, .inr trivial, .inr trivial, .inr trivial, .inr trivial, .inr trivial, .inr trivial, .inr trivial, .inr trivial, .inr trivial, .inr trivial, .inr trivial, .inr trivial, .inr trivial, .inr trivial, .inr trivial, .inr trivial, .inr trivial, .inr trivial, .inr trivial, .inr trivial, .inr trivial, .inr trivial, .inr trivial, .inr trivial, .inr trivial, .inr trivial, .inr trivial, .inr trivial, .inr trivial, .inr trivial, .inr trivial, .inr trivial, .inr trivial, .inr trivial, .inr trivial, .inr trivial, .inr trivial, .inr trivial, .inr trivial, .inr trivial, .inr trivial, .inr trivial, .inr trivial, .inr trivial, .inr trivial, .inr trivial, .inr trivial, .inr trivial, .inr trivial, .inr trivial, .inr trivial, .inr trivial, .inr trivial, .inr trivial, .inr trivial, .inr trivial, .inr trivial, .inr trivial, .inr trivial, .inr trivial, .inr trivial, .inr trivial, .inr trivial, .inr trivial, .inr trivial, .inr trivial, .inr trivial, .inr trivial, .inr trivial, .inr trivial, .inr trivial, .inr trivial, .inr trivial, .inr trivial, .inr trivial, .inr trivial, .inr trivial, .inr trivial, .inr trivial, .inr trivial, .inr trivial, .inr trivial, .inr trivial, .inr trivial, .inr trivial, .inr trivial, .inr trivial, .inr trivial, .inr trivial, .inr trivial, .inr trivial, .inr trivial, .inr trivial, .inr trivial, .inr trivial, .inr trivial, .inr trivial, .inr trivial, .inr trivial, .inr trivial, .inr trivial, .inr trivial, .inr trivial, .inr trivial, .inr trivial, .inr trivial, .inr trivial, .inr trivial, .inr trivial, .inr trivial, .inr trivial, .inr trivial, .inr trivial, .inr trivial, .inr trivial, .inr trivial, .inr trivial, .inr trivial, .inr trivial, .inr trivial, .inr trivial, .inr trivial, .inr trivial, .inr trivial, .inr trivial, .inr trivial, .inr trivial, .inr trivial, .inr trivial, .inr trivial, .inr trivial, .inr trivial, .inr trivial, .inr trivial, .inr trivial, .inr trivial, .inr trivial, .inr trivial, .inr trivial, .inr trivial, .inr trivial, .inr trivial, .inr trivial, .inr trivial, .inr trivial, .inr trivial, .inr trivial, .inr trivial, .inr trivial, .inr trivial, .inr trivial, .inr trivial, .inr trivial, .inr trivial, .inr trivial, .inr trivial, .inr trivial, .inr trivial, .inr trivial, .inr trivial, .inr trivial, .inr trivial, .inr trivial, .inr trivial, .inr trivial, .inr trivial, .inr trivial, .inr trivial, .inr trivial, .inr trivial, .inr trivial, .inr trivial, .inr trivial, .inl rfl, .inl rfl, .inl rfl, .inl rfl, .inl rfl, .inl rfl, .inl rfl, .inl rfl, .inl rfl, .inl rfl, .inl rfl, .inl rfl, .inl rfl, .inl rfl, .inl rfl, .inl rfl, .inl rfl, .inl rfl, trivial⟩ (c46_ob _ ys w.heap.size _ v3 H3.out (range1 p0)) ?_
   intro a w8 hg8 hd hsz hk8
   have h6 := hk8 4 (by show 4 < 401; decide)
   go_wp2
   refine bodyPost_ret (results_tmp rfl _ _ _) hd ?_
   exact ⟨congrArg _ h6, grown_trans (grown_trans (grown_trans HG2.out HA0.out) (grown_drew W)) hg8⟩
end Go.Proofs.Ytkeiffccllfkpaa
/- The law CodecReads at sources. (printed by gen_law15.py) -/
namespace Go.Proofs.Ytkeiffccllfkpaa
open Go.RowKit
set_option linter.unusedSimpArgs false
set_option linter.unusedVariables false
theorem reads9 (b : Value) (xs : List Nat) (kind : Int) (w : World) (hb : Sl w 1 b xs.length (bv xs)) (hbl : Lo b w.heap.size) (hx : ∀ x ∈ xs, x < 256) (h200 : ¬ 200 < xs.length) (hk : bits .and .i64 kind 7 = 5) (h8 : (bits .and .i64 kind 8 == 0) = false) :
   Calls Try.prog 15 #[b, .int .i64 kind] w fun e w' => e = .returned (.bool true) ∧ w.grownBy w' none := by
 obtain ⟨ao, cap, rfl, hnc, hcm⟩ := hb.shape
 have HB := hid hb
 have HL := hid hbl
 have HX := hid hx
 have HLEN := hid h200
 clear hb hbl hx
 have d1 : decide (200 < xs.length) = false := decide_eq_false h200
 go_enter Try.func15, Try.ntmps15
 go_wp2_with fail
 have ga := World.grownBy_alloc w (.cells #[.slice ao xs.length cap, .int .i64 0] 33) none
 refine (rdxSources_walk (.slice ao xs.length cap) xs _ (HB.out.kn ga) (by have := HLEN.out; omega) HX.out (HL.out.mono ga.size)).mono ?_
 intro e w1 h4
 have g1 := h4.1
 have hst : RSt 33 w.heap.size w1 w.heap.size (.ok xs) :=
   ⟨_, xs, ⟨rfl, row_of g1 (heap_at rfl) (by simp)⟩, HB.out.kn (grown_trans ga g1), ⟨HL.out, Nat.le_refl _⟩, HX.out, by have := HLEN.out; omega⟩
 have hs1 : w.heap.size < w1.heap.size := by have := g1.size; simp at this; omega
 have HST := hid hst
 have G1 := hid (grown_trans ga g1)
 clear hst g1 ga
 cases hp : pSrcs xs with
 | error n =>
   unfold ReadPost at h4
   rw [hp] at h4
   obtain ⟨_, rfl, hne⟩ := h4
   have HP := hid hp
   clear hp
   go_wp2_with fail
   refine (rSources_read _ _ _ HST.out).mono ?_
   rintro e w2 ⟨v2, y, s2, rfl, hrep, hg2, hst2, hrel⟩
   obtain rfl := hrel.err_of HP.out
   obtain ⟨v3, l3, ⟨he, he2, hrow⟩, _⟩ := hst2
   obtain ⟨r0, r1, r2, r3⟩ := row2 hrow
   have be : ((n : Int) != 0) = true := by simp; omega
   have be' : ((n : Int) == 0) = false := by simp; omega
   have HG2 := hid hg2
   obtain ⟨ao2, cap2, rfl, _, _⟩ := hrep.1.shape
   clear hrel he he2 hrow hg2 hrep hne
   go_wp2_with (go_at_call 18; refine (awake_walk _).mono ?_; rintro e w' ⟨rfl, hg⟩)
   go_ret
   exact ⟨rfl, grown_trans (grown_newR G1.out HG2.out (Nat.le_refl _)) hg⟩
 | ok p =>
   obtain ⟨x, ys⟩ := p
   unfold ReadPost at h4
   rw [hp] at h4
   obtain ⟨_, v, rv, rfl, hrep, hrest, hrlo⟩ := h4
   have RLO := hid (show ∀ k, rv.ownBlock = some k → w.heap.size + 1 ≤ k from fun k hk => by have := hrlo k hk; simpa using this)
   clear hrlo
   obtain ⟨ao3, cap3, rfl, _, _⟩ := hrest.shape
   have HP := hid hp
   have HRT := hid hrest
   have HREP := hid hrep
   obtain ⟨ao1, cap1, rfl, _, _⟩ := hrep.1.shape
   clear hp hrest hrep
   go_wp2_with fail
   refine (rSources_read _ _ _ HST.out).mono ?_
   rintro e w2 ⟨v2, y, s2, rfl, hrep2, hg2, hst2, hrel⟩
   obtain ⟨rfl, rfl⟩ := hrel.ok_of HP.out
   obtain ⟨v3, l3, ⟨rfl, hrow⟩, hs3, _⟩ := hst2
   obtain ⟨r0, r1, r2, r3⟩ := row2 hrow
   have HG2 := hid hg2
   have HROW := hid hrow
   have HREP2 := hid hrep2
   obtain ⟨ao2, cap2, rfl, _, _⟩ := hrep2.1.shape
   have hsl1 := HREP.out.1.kept hg2 (.inr fun e => by have := (HREP.out.2 _ e).1; simp at this; omega)
   have HS1 := hid hsl1
   clear hsl1
   clear hrel hrow hg2 hrep2
   go_wp2_with (go_at_call 36; refine (sameSrcs_walk _ _ _ _ _ HS1.out HREP2.out.1).mono ?_; rintro e w5 ⟨rfl, hg5⟩; have hrow5 := row_of hg5 HROW.out (by simp); obtain ⟨p0, p1, p2, p3⟩ := row2 hrow5; have HG5 := hid hg5; have H3 := hid (hs3.kn hg5); clear hrow5 hg5)
   go_wp2
   have hrest := HRT.out.kept (grown_trans HG2.out (grown_none HG5.out)) (.inr fun e => by have := RLO.out _ e; omega)
   refine region_list mixed (c46L ys w.heap.size) _ (c46_reg _) (c46_m _) rfl ⟨.inr trivial, .inr trivial, .inr trivial, .inr trivial, .inl rfl, .inr rfl, .inr hrest, .inr rfl, .inr rfl, .inr trivial, .inr trivial, .inr trivial, .inr trivial, .inr trivial, .inr trivial, .inr trivial, .inr trivial, .inr trivial, .inr trivial, .inr trivial, .inr trivial, .inr trivial, .inr trivial, .inr trivial, .inr trivial, .inr trivial, .inr trivial, .inr trivial, .inr trivial, .inr trivial, .inr trivial, .inr trivial, .inr trivial, .inr trivial, .inr trivial, .inr trivial, .inr trivial, .inr trivial, .inr trivial, .inr trivial, .inr trivial, .inr trivial, .inr trivial, .inr trivial, .inr trivial, .inr trivial, .inr trivial, .inr trivial, .inr trivial, .inr trivial, .inr trivial, .inr trivial, .inr trivial, .inr trivial, .inr trivial, .inr trivial, .inr trivial, .inr trivial, .inr trivial, .inr trivial, .inr trivial, .inr trivial, .inr trivial, .inr trivial, .inr trivial, .inr trivial, .inr trivial, .inr trivial, .inr trivial, .inr trivial, .inr trivial, .inr trivial, .inr trivial, .inr trivial, .inr trivial, .inr trivial, .inr trivial, .inr trivial, .inr trivial, .inr trivial, .inr trivial, .inr trivial, .inr trivial, .inr trivial, .inr trivial, .inr trivial, .inr trivial, .inr trivial, .inr trivial, .inr trivial, .inr trivial, .inr trivial, .inr trivial, .inr trivial, .inr trivial, .inr trivial, .inr trivial, .inr trivial, .inr trivial, .inr trivial, .inr trivial, .inr trivial, .inr trivial, .inr trivial, .inr trivial, .inr trivial, .inr trivial, .inr trivial, .inr trivial, .inr trivial, .inr trivial, .inr trivial, .inr trivial, .inr trivial, .inr trivial, .inr trivial, .inr trivial, .inr trivial, .inr trivial, .inr trivial, .inr trivial, .inr trivial, .inr trivial, .inr trivial, .inr trivial, .inr trivial, .inr trivial, .inr trivial, .inr trivial, .inr trivial, .inr trivial, .inr trivial, .inr trivial, .inr trivial, .inr trivial, .inr trivial, .inr trivial, .inr trivial, .inr trivial, .inr trivial, .inr trivial, .inr trivial, .inr trivial, .inr trivial, .inr trivial, .inr trivial, .inr trivial, .inr trivial, .inr trivial, .inr trivial, .inr trivial, .inr trivial, .inr trivial, .inr trivial, .inr trivial, .inr trivial, .inr trivial, .inr trivial, .inr trivial, .inr trivial, .inr trivial, .inr trivial, .inr trivial, .inr trivial, .inr trivial, .inr trivial, .inr trivial, .inr trivial, .inr trivial, .inr trivial, .inr trivial, .inr trivial, .inr trivial, .inr trivial, .inr trivial, .inr trivial, .inr trivial, .inr trivial, .inr trivial, .inr trivial, .inr trivial, .inr trivial, .inr trivial, .inr trivial, .inr trivial, .inr trivial, .inr trivial, .inr trivial, .inr trivial, .inr trivial, .inr trivial, .inr trivial, .inr trivial, .inr trivial, .inr trivial, .inr trivial, .inr trivial, .inr trivial, .inr trivial, .inr trivial, .inr trivial, .inr trivial, .inr trivial, .inr trivial, .inr trivial, .inr trivial, .inr trivial, .inr trivial, .inr trivial, .inr trivial, .inr trivial, .inr trivial, .inr trivial, .inr trivial, .inr trivial, .inr trivial, .inr trivial, .inr trivial, .inr trivial, .inr trivial, .inr trivial, .inr trivial, .inr trivial, .inr trivial, .inr trivial, .inr trivial, .inr trivial, .inr trivial, .inr trivial, .inr trivial, .inr trivial, .inr trivial, .inr trivial, .inr trivial, .inr trivial, .inr trivial, .inr trivial, .inr trivial, .inr trivial, .inr trivial, .inr trivial, .inr trivial, .inr trivial, .inr trivial, .inr trivial, .inr trivial, .inr trivial, .inr trivial, .inr trivial, .inr trivial, .inr trivial, .inr trivial, .inr trivial, .inr trivial, .inr trivial, .inr trivial, .inr trivial, .inr trivial, .inr trivial, .inr trivial, .inr trivial, .inr trivial, .inr trivial, .inr trivial, .inr trivial, .inr trivial, .inr trivial, .inr trivial, .inr trivial, .inr trivial, .inr trivial, .inr trivial, .inr trivial, .inr trivial, .inr trivial, .inr trivial, .inr trivial, .inr trivial, .inr trivial, .inr trivial, .inr trivial, .inr trivial, .inr trivial, .inr trivial, .inr trivial, .inr trivial, .inr trivial, .inr trivial, .inr trivial, .inr trivial, .inr trivial, .inr trivial, .inr trivial, .inr trivial, .inr trivial, .inr trivial, .inr trivial, .inr trivial, .inr trivial, .inr trivial, .inr trivial, .inr trivial, .inr trivial, .inr trivial, .inr trivial, .inr trivial, .inr trivial, .inr trivial, .inr trivial, .inr trivial, .inr trivial, .inr trivial, .inr trivial, .inr trivial, .inr trivial, .inr trivial, .inr trivial, .inr trivial, .inr trivial, .inr trivial, .inr trivial, .inr trivial, .inr trivial, .inr trivial, .inr trivial, .inr trivial, .inr trivial, .inr trivial, .inr trivial, .inr trivial, .inr trivial, .inr trivial, .inr trivial, .inr trivial, .inr trivial, .inr trivial, .inr trivial, .inr trivial, .inr trivial, .inr trivial, .inr trivial, .inr trivial, .inr trivial, .inr trivial, .inr trivial, .inr trivial, .inr trivial, .inr trivial, .inr trivial, .inr trivial, .inr trivial, .inr trivial, .inr trivial, .inr trivial, .inr trivial, .inr trivial, .inr trivial, .inr trivial, .inr trivial, .inr trivial, .inr trivial, .inr trivial, .inr trivial, .inr trivial, .inr trivial, .inr trivial, .inr trivial, .inr trivial, .inr trivial, .inr trivial, .inr trivial, .inr trivial, .inr trivial, .inr trivial, .inr trivial, .inr trivial, .inr trivial, .inr trivial, .inr trivial, .inr trivial, .inr trivial, .inr trivial, .inr trivial, .inl rfl, .inl rfl, .inl rfl, .inl rfl, .inl rfl, .inl rfl, .inl rfl, .inl rfl, .inl rfl, .inl rfl, .inl rfl, .inl rfl, .inl rfl, .inl rfl, .inl rfl, .inl rfl, .inl rfl, .inl rfl, trivial⟩ (c46_ob _ ys w.heap.size _ v3 H3.out (range1 p0)) ?_
   intro a w8 hg8 hd hsz hk8
   have h6 := hk8 4 (by show 4 < 401; decide)
   go_wp2
   refine bodyPost_ret (results_tmp rfl _ _ _) hd ?_
   exact ⟨congrArg _ h6, grown_trans (grown_trans (grown_newR G1.out HG2.out (Nat.le_refl _)) HG5.out) hg8⟩
end Go.Proofs.Ytkeiffccllfkpaa
/- The law CodecReads walked. (printed by gen_law15.py) -/
namespace Go.Proofs.Ytkeiffccllfkpaa
open Go.RowKit
set_option linter.unusedSimpArgs false
set_option linter.unusedVariables false
theorem and7 (a : Int) : ∃ n : Nat, n ≤ 7 ∧ bits .and .i64 a 7 = n := by
 unfold bits
 have hx : ((BitVec.ofInt IntKind.i64.bits a) &&& (BitVec.ofInt IntKind.i64.bits 7)).toNat ≤ 7 := by
   rw [BitVec.toNat_and]
   exact Nat.le_trans Nat.and_le_right (by decide)
 refine ⟨((BitVec.ofInt IntKind.i64.bits a) &&& (BitVec.ofInt IntKind.i64.bits 7)).toNat, hx, ?_⟩
 show IntKind.i64.wrap (((BitVec.ofInt IntKind.i64.bits a) &&& (BitVec.ofInt IntKind.i64.bits 7)).toNat : Int) = _
 generalize ((BitVec.ofInt IntKind.i64.bits a) &&& (BitVec.ofInt IntKind.i64.bits 7)).toNat = n at *
 have : n = 0 ∨ n = 1 ∨ n = 2 ∨ n = 3 ∨ n = 4 ∨ n = 5 ∨ n = 6 ∨ n = 7 := by omega
 rcases this with rfl | rfl | rfl | rfl | rfl | rfl | rfl | rfl <;> decide
theorem codecReads_walk (b : Value) (xs : List Nat) (kind : Int) (w : World) (hb : Sl w 1 b xs.length (bv xs)) (hbl : Lo b w.heap.size) (hx : ∀ x ∈ xs, x < 256) :
   Calls Try.prog 15 #[b, .int .i64 kind] w fun e w' => e = .returned (.bool true) ∧ w.grownBy w' none := by
 by_cases h200 : 200 < xs.length
 · obtain ⟨ao, cap, rfl, hnc, hcm⟩ := hb.shape
   have d1 : decide (200 < xs.length) = true := decide_eq_true h200
   clear hb hbl hx hnc hcm
   go_enter Try.func15, Try.ntmps15
   go_wp2_with (go_at_call 18; refine (awake_walk _).mono ?_; rintro e w' ⟨rfl, hg⟩)
   go_ret
   exact ⟨rfl, hg⟩
 obtain ⟨n, hn, hk⟩ := and7 kind
 have : n = 0 ∨ n = 1 ∨ n = 2 ∨ n = 3 ∨ n = 4 ∨ n = 5 ∨ n = 6 ∨ n = 7 := by omega
 rcases this with rfl | rfl | rfl | rfl | rfl | rfl | rfl | rfl
 · exact reads0 b xs kind w hb hbl hx h200 hk
 · exact reads1 b xs kind w hb hbl hx h200 hk
 · exact reads2 b xs kind w hb hbl hx h200 hk
 · exact reads3 b xs kind w hb hbl hx h200 hk
 · exact reads4 b xs kind w hb hbl hx h200 hk
 · cases h8 : (bits .and .i64 kind 8 == 0) with
   | true => exact reads5 b xs kind w hb hbl hx h200 hk h8
   | false => exact reads9 b xs kind w hb hbl hx h200 hk h8
 · exact reads6 b xs kind w hb hbl hx h200 hk
 · exact reads7 b xs kind w hb hbl hx h200 hk
end Go.Proofs.Ytkeiffccllfkpaa
