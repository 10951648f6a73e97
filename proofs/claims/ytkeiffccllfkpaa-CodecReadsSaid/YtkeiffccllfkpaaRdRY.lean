import Derived.Test.YtkeiffccllfkpaaRdRS
set_option linter.unusedSimpArgs false
set_option linter.unusedVariables false
set_option maxRecDepth 100000
set_option maxHeartbeats 1000000
/- The reference's reader: values from arbitrary bytes. -/
namespace Go.Proofs.Ytkeiffccllfkpaa
open Go.RowKit
set_option linter.unusedSimpArgs false
set_option linter.unusedVariables false
attribute [local go_sem] Oper.semAt_some
theorem rval_read {L : Nat} (R : Nat) (s : St) (w : World) (h : RSt 33 L w R s) :
   Calls Try.prog 76 #[.pointer (some ⟨R, 0, none⟩)] w (RdPost 33 L w R pV s repV) := by
 have hR := h.lt
 have ga := World.grownBy_alloc w (.cells #[.int .i64 0, .int .i64 0, .string ⟨#[]⟩] 67) none
 have hst := h.kept ga
 have GA := hid ga
 have HST := hid hst
 clear ga hst h
 go_enter Try.func76, Try.ntmps76
 go_wp2_with fail
 refine (rcount_walk R s 2 _ HST.out).mono ?_
 rintro e w1 ⟨v1, k, s1, rfl, ⟨rfl, hk⟩, hg1, hst1, hrel1⟩
 have hA := row_of hg1 (heap_at rfl) (by simp; omega)
 have hsz := hg1.size
 have hR1 : w.heap.size < w1.heap.size := by simp at hsz; omega
 have hgW : w.grownBy (w1.alloc (.cells #[.int .i64 k, .int .i64 0, .string ⟨#[]⟩] 67)) (some R) := grown_trans (grown_trans (grown_0 GA.out) hg1) (World.grownBy_alloc _ _ _)
 have hAW := (heap_past (w := w1) (o := .cells #[.int .i64 k, .int .i64 0, .string ⟨#[]⟩] 67) hR1).trans hA
 have hBW := heap_at (w := w1) (o := .cells #[.int .i64 k, .int .i64 0, .string ⟨#[]⟩] 67) (n := w1.heap.size) rfl
 have hstW := hst1.kept (World.grownBy_alloc w1 (.cells #[.int .i64 k, .int .i64 0, .string ⟨#[]⟩] 67) none)
 have REL1 := hid hrel1
 have HA1 := hid hA
 have G1 := hid hg1
 have ST1 := hid hst1
 have GW := hid hgW
 have AW := hid hAW
 have BW := hid hBW
 have SW := hid hstW
 clear hg1 hst1 hrel1 hA hsz hgW hAW hBW hstW
 by_cases hk1 : k = 1
 · subst hk1
   go_wp2_with fail
   generalize w1.alloc (.cells #[.int .i64 1, .int .i64 0, .string ⟨#[]⟩] 67) = W at *
   refine (rint_walk R s1 _ SW.out).mono ?_
   rintro e w2 ⟨v2, n, s2, rfl, ⟨rfl, hn⟩, hg2, hst2, hrel2⟩
   have hA2 := row_of hg2 AW.out (by simp; omega)
   have hB2 := row_of hg2 BW.out (by simp; omega)
   have a1 : ∀ j, w2.cell? ⟨w.heap.size, j, none⟩ = (#[Value.int .i64 0, .int .i64 0, .string ⟨#[]⟩] : Array Value)[j]? := fun j => cell_of_row w2 _ j _ _ _ hA2
   have a2 : ∀ j, w2.frozen? ⟨w.heap.size, j, none⟩ = false := fun j => frozen_of_row w2 _ j _ _ hA2
   have b1 : ∀ j, w2.cell? ⟨w1.heap.size, j, none⟩ = (#[Value.int .i64 1, .int .i64 0, .string ⟨#[]⟩] : Array Value)[j]? := fun j => cell_of_row w2 _ j _ _ _ hB2
   have b2 : ∀ j, w2.frozen? ⟨w1.heap.size, j, none⟩ = false := fun j => frozen_of_row w2 _ j _ _ hB2
   have HA2 := hid hA2
   have G2 := hid hg2
   have gX := grown_setCell w2 ⟨w1.heap.size, 1, none⟩ (.int .i64 n)
   have hAX := row_of gX hA2 (by simp; omega)
   have hBX : (w2.setCell ⟨w1.heap.size, 1, none⟩ (.int .i64 n)).heap[w1.heap.size]? = some (.cells #[.int .i64 1, .int .i64 n, .string ⟨#[]⟩] 67 (0, 0)) := by simpa using heap_setCell_same w2 w1.heap.size 1 _ _ _ hB2
   have hsX := hst2.past gX (by simp; omega)
   obtain ⟨r1, r2, r3⟩ := hrel2.inIn (a := -4294967296) (b := 4294967296)
   by_cases hb : n < -4294967296 ∨ 4294967296 < n
   · obtain ⟨v3, er, hrow, hcase⟩ : ∃ v3 er, (w2.setCell ⟨w1.heap.size, 1, none⟩ (.int .i64 n)).heap[R]? = some (.cells #[v3, .int .i64 er] 33 (0, 0)) ∧ ((er = 0 ∧ ∃ l, s2 = .ok l) ∨ (er ≠ 0 ∧ ∃ x, s2 = .error x)) := by
       obtain ⟨v3, l3, hc, _⟩ := hsX
       cases s2 with
       | error er => exact ⟨v3, er, hc.2.2, .inr ⟨by have := hc.1; omega, _, rfl⟩⟩
       | ok l => exact ⟨v3, 0, hc.2, .inl ⟨rfl, _, rfl⟩⟩
     have d1 : (decide (n < -4294967296) = true) ∨ (decide (n < -4294967296) = false ∧ decide (4294967296 < n) = true) := by
       rcases hb with hb | hb
       · exact .inl (decide_eq_true hb)
       · by_cases h0 : n < -4294967296
         · exact .inl (decide_eq_true h0)
         · exact .inr ⟨decide_eq_false h0, decide_eq_true hb⟩
     have HB := hid hb
     have HC := hid hcase
     have SX := hid hsX
     have GX := hid gX
     have AX := hid hAX
     have BX := hid hBX
     have HRW := hid hrow
     have R2 := hid r2
     have R3 := hid r3
     clear hb hcase hsX hrow r1 r2 r3 hA2 hB2 hg2 hst2 hrel2 gX hAX hBX
     rcases d1 with d1 | ⟨d1, d2⟩
     all_goals
       go_wp2_with (go_at_call 92; refine (rfail_walk _ _ _ _ _ HRW.out).mono ?_; rintro e w' ⟨rfl, hw'⟩; have g4 : World.grownBy _ w' (some R) := (by rw [hw']; split; exact grown_setCell _ ⟨R, 1, none⟩ _; exact World.grownBy.refl _ _); have hA4 := row_of g4 AX.out (by simp; omega); have hB4 := row_of g4 BX.out (by simp; omega); have c1 := (fun j => cell_of_row w' _ j _ _ _ hA4); have c2 := (fun j => frozen_of_row w' _ j _ _ hA4); have c3 := (fun j => cell_of_row w' _ j _ _ _ hB4); have c4 := (fun j => frozen_of_row w' _ j _ _ hB4); have HW := hid hw'; have G4 := hid g4; have A4 := hid hA4; clear hw' g4 hA4 hB4)
       obtain ⟨q1, q2⟩ := setCells_all [.int .i64 1, .int .i64 n, .string ⟨#[]⟩] A4.out rfl
       refine ret_cell rfl rfl (tyV ⟨1, n, ByteArray.empty⟩) q2 rfl ⟨_, ⟨1, n, ByteArray.empty⟩, .error (match s2 with | .error e => e | .ok _ => 1), rfl, rfl, grown_R (grown_trans (grown_R (grown_trans GW.out G2.out) GX.out (by omega)) G4.out) q1 (by simp), ?_, ?_⟩
       · refine RSt.past ?_ q1 (by omega)
         rcases HC.out with ⟨h0, l, hl⟩ | ⟨h0, x, hx⟩
         · subst hl
           rw [HW.out, if_pos h0]
           exact SX.out.fail' 1 (by decide) (by decide)
         · subst hx
           rw [HW.out, if_neg h0]
           exact SX.out
       · unfold pV
         refine Rel.bind REL1.out ?_
         rw [if_pos rfl]
         rcases HC.out with ⟨h0, l, hl⟩ | ⟨h0, x, hx⟩
         · subst hl
           exact Rel.bind (R2.out l rfl HB.out 0) (Rel.dead' _ _)
         · subst hx
           exact Rel.bind (R3.out x rfl 0) (Rel.dead' _ _)
   · have d1 : decide (n < -4294967296) = false := decide_eq_false (by omega)
     have d2 : decide (4294967296 < n) = false := decide_eq_false (by omega)
     have hin : Rel (pIntIn (-4294967296) 4294967296) s1 n s2 := by
       cases s2 with
       | error er => exact r3 er rfl n
       | ok l => exact r1 l rfl (by omega)
     have R2 := hid hin
     have SX := hid hsX
     have GX := hid gX
     have AX := hid hAX
     clear hb hsX r1 r2 r3 hA2 hB2 hg2 hst2 hrel2 gX hAX hBX hin
     go_wp2
     obtain ⟨q1, q2⟩ := setCells_all [.int .i64 1, .int .i64 n, .string ⟨#[]⟩] AX.out rfl
     exact ret_cell rfl rfl (tyV ⟨1, n, ByteArray.empty⟩) q2 rfl ⟨_, ⟨1, n, ByteArray.empty⟩, s2, rfl, rfl, grown_R (grown_R (grown_trans GW.out G2.out) GX.out (by omega)) q1 (by simp), SX.out.past q1 (by omega),
       (by unfold pV; refine Rel.bind REL1.out ?_; rw [if_pos rfl]; exact Rel.bind R2.out (Rel.pure _ _))⟩
 by_cases hk2 : k = 2
 · subst hk2
   go_wp2_with fail
   generalize w1.alloc (.cells #[.int .i64 2, .int .i64 0, .string ⟨#[]⟩] 67) = W at *
   refine (rtext_read R s1 32 _ SW.out (by decide)).mono ?_
   rintro e w2 ⟨v2, n, s2, rfl, ⟨rfl, hn⟩, hg2, hst2, hrel2⟩
   have hA2 := row_of hg2 AW.out (by simp; omega)
   have hB2 := row_of hg2 BW.out (by simp; omega)
   have a1 : ∀ j, w2.cell? ⟨w.heap.size, j, none⟩ = (#[Value.int .i64 0, .int .i64 0, .string ⟨#[]⟩] : Array Value)[j]? := fun j => cell_of_row w2 _ j _ _ _ hA2
   have a2 : ∀ j, w2.frozen? ⟨w.heap.size, j, none⟩ = false := fun j => frozen_of_row w2 _ j _ _ hA2
   have b1 : ∀ j, w2.cell? ⟨w1.heap.size, j, none⟩ = (#[Value.int .i64 2, .int .i64 0, .string ⟨#[]⟩] : Array Value)[j]? := fun j => cell_of_row w2 _ j _ _ _ hB2
   have b2 : ∀ j, w2.frozen? ⟨w1.heap.size, j, none⟩ = false := fun j => frozen_of_row w2 _ j _ _ hB2
   have HA2 := hid hA2
   have G2 := hid hg2
   have S2 := hid hst2
   have R2 := hid hrel2
   clear hA2 hB2 hg2 hst2 hrel2
   go_wp2
   have gX := grown_setCell w2 ⟨w1.heap.size, 2, none⟩ (.string n)
   have hAX := row_of gX HA2.out (by simp; omega)
   obtain ⟨q1, q2⟩ := setCells_all [.int .i64 2, .int .i64 0, .string n] hAX rfl
   exact ret_cell rfl rfl (tyV ⟨2, 0, n⟩) q2 rfl ⟨_, ⟨2, 0, n⟩, s2, rfl, rfl, grown_R (grown_R (grown_trans GW.out G2.out) gX (by simp; omega)) q1 (by simp), (S2.out.past gX (by simp; omega)).past q1 (by omega),
     (by unfold pV; refine Rel.bind REL1.out ?_; rw [if_neg (by decide), if_pos rfl]; exact Rel.bind R2.out (Rel.pure _ _))⟩
 have e1 : (k == 1) = false := by simpa using hk1
 have e2 : (k == 2) = false := by simpa using hk2
 have HK := hid (And.intro hk1 hk2)
 have hA2 := HA1.out
 have a1 : ∀ j, w1.cell? ⟨w.heap.size, j, none⟩ = (#[Value.int .i64 0, .int .i64 0, .string ⟨#[]⟩] : Array Value)[j]? := fun j => cell_of_row _ _ j _ _ _ hA2
 have a2 : ∀ j, w1.frozen? ⟨w.heap.size, j, none⟩ = false := fun j => frozen_of_row _ _ j _ _ hA2
 clear hk1 hk2 hA2
 go_wp2
 obtain ⟨q1, q2⟩ := setCells_all [.int .i64 k, .int .i64 0, .string ⟨#[]⟩] HA1.out rfl
 have q3 := heap_past (w := w1.setCells w.heap.size 0 [.int .i64 k, .int .i64 0, .string ⟨#[]⟩]) (o := .cells #[.int .i64 k, .int .i64 0, .string ⟨#[]⟩] 67) (Array.getElem?_eq_some_iff.1 q2).1
 have gA := World.grownBy_alloc (w1.setCells w.heap.size 0 [.int .i64 k, .int .i64 0, .string ⟨#[]⟩]) (.cells #[.int .i64 k, .int .i64 0, .string ⟨#[]⟩] 67)
 exact ret_cell rfl rfl (tyV ⟨k, 0, ByteArray.empty⟩) (q3.trans q2) rfl ⟨_, ⟨k, 0, ByteArray.empty⟩, s1, rfl, rfl, grown_trans (grown_R (grown_trans (grown_0 GA.out) G1.out) q1 (Nat.le_refl _)) (gA _), (ST1.out.past q1 (by omega)).kept (gA _),
   (by unfold pV; refine Rel.bind REL1.out ?_; rw [if_neg HK.out.1, if_neg HK.out.2]; exact Rel.pure _ _)⟩
end Go.Proofs.Ytkeiffccllfkpaa
/- Structs of the reference's reader. (printed by gen_refrd.py) -/
namespace Go.Proofs.Ytkeiffccllfkpaa
open Go.RowKit
set_option linter.unusedSimpArgs false
set_option linter.unusedVariables false
theorem rIdentifier_read {L : Nat} (R : Nat) (s : St) (w : World) (h : RSt 33 L w R s) :
   Calls Try.prog 161 #[.pointer (some ⟨R, 0, none⟩)] w (RdPost 33 L w R pIdf s repIdf) := by
 have hR := h.lt
 have HS0 := hid (h.kept (World.grownBy_alloc w (.cells [Value.string ⟨#[]⟩, Value.int .i64 0, Value.int .i64 0, Value.string ⟨#[]⟩].toArray 103) none))
 clear h
 go_enter Try.func161, Try.ntmps161
 go_wp2_with fail
 refine (rtext_read R s 16 _ HS0.out (by decide)).mono ?_
 rintro e w1 ⟨v1, x1, s1, rfl, ⟨rfl, hn⟩, hg, hst, hrel⟩
 have R1 := hid hrel
 have F1 := hid (FR.start1 103 [Value.string ⟨#[]⟩, Value.int .i64 0, Value.int .i64 0, Value.string ⟨#[]⟩] [Value.string x1, Value.int .i64 0, Value.int .i64 0, Value.string ⟨#[]⟩] hR hg hst)
 have hBB := F1.out.hB
 clear hn
 clear hg hst hrel
 go_wp2_with fail
 refine (rval_read R s1 _ F1.out.st).mono ?_
 rintro e w2 ⟨v2, x2, s2, rfl, rfl, hg, hst, hrel⟩
 have R2 := hid hrel
 obtain ⟨x2k, x2n, x2t⟩ := x2
 have G2 := hid (F1.out.call hg hst)
 have c1 := G2.out.cell
 have f1 := G2.out.frozen
 have c0 := G2.out.cell0
 have f0 := G2.out.frozen0
 clear hg hst hrel
 unfold vval
 go_wp2
 have F2 := hid (G2.out.stores 1 [.int .i64 x2k, .int .i64 x2n, .string x2t] (by simp) (C' := [.string x1, .int .i64 x2k, .int .i64 x2n, .string x2t]) rfl)
 obtain ⟨q1, q2, q3⟩ := F2.out.fin rfl
 exact ret_cell rfl rfl (tyIdf ⟨x1, ⟨x2k, x2n, x2t⟩⟩) q3 rfl ⟨_, ⟨x1, ⟨x2k, x2n, x2t⟩⟩, s2, rfl, rfl, q1, q2, R1.out.bind (R2.out.bind (Rel.pure _ _))⟩
theorem rLink_read {L : Nat} (R : Nat) (s : St) (w : World) (h : RSt 33 L w R s) :
   Calls Try.prog 160 #[.pointer (some ⟨R, 0, none⟩)] w (RdPost 33 L w R pLnk s repLnk) := by
 have hR := h.lt
 have HS0 := hid (h.kept (World.grownBy_alloc w (.cells [Value.string ⟨#[]⟩, Value.int .i64 0, Value.int .i64 0, Value.string ⟨#[]⟩, Value.string ⟨#[]⟩, Value.int .i64 0, Value.int .i64 0, Value.string ⟨#[]⟩, Value.int .i64 0, Value.bool false].toArray 107) none))
 clear h
 go_enter Try.func160, Try.ntmps160
 go_wp2_with fail
 refine (rIdentifier_read R s _ HS0.out).mono ?_
 rintro e w1 ⟨v1, x1, s1, rfl, rfl, hg, hst, hrel⟩
 have R1 := hid hrel
 obtain ⟨x1s, x1k, x1n, x1t⟩ := x1
 have F1 := hid (FR.start1 107 [Value.string ⟨#[]⟩, Value.int .i64 0, Value.int .i64 0, Value.string ⟨#[]⟩, Value.string ⟨#[]⟩, Value.int .i64 0, Value.int .i64 0, Value.string ⟨#[]⟩, Value.int .i64 0, Value.bool false] [Value.string x1s, Value.int .i64 x1k, Value.int .i64 x1n, Value.string x1t, Value.string ⟨#[]⟩, Value.int .i64 0, Value.int .i64 0, Value.string ⟨#[]⟩, Value.int .i64 0, Value.bool false] hR hg hst)
 have hBB := F1.out.hB
 clear hg hst hrel
 unfold valIdf idfcells
 go_wp2_with fail
 refine (rIdentifier_read R s1 _ F1.out.st).mono ?_
 rintro e w2 ⟨v2, x2, s2, rfl, rfl, hg, hst, hrel⟩
 have R2 := hid hrel
 obtain ⟨x2s, x2k, x2n, x2t⟩ := x2
 have G2 := hid (F1.out.call hg hst)
 have c1 := G2.out.cell
 have f1 := G2.out.frozen
 clear hg hst hrel
 unfold valIdf idfcells
 go_wp2_with fail
 have F2 := hid (G2.out.stores 4 [.string x2s, .int .i64 x2k, .int .i64 x2n, .string x2t] (by simp) (C' := [.string x1s, .int .i64 x1k, .int .i64 x1n, .string x1t, .string x2s, .int .i64 x2k, .int .i64 x2n, .string x2t, .int .i64 0, .bool false]) rfl)
 clear c1 f1
 refine (rint_walk R s2 _ F2.out.st).mono ?_
 rintro e w3 ⟨v3, x3, s3, rfl, ⟨rfl, hn⟩, hg, hst, hrel⟩
 have R3 := hid hrel
 have G3 := hid (F2.out.call hg hst)
 have c1 := G3.out.cell
 have f1 := G3.out.frozen
 clear hn
 clear hg hst hrel
 go_wp2_with fail
 have F3 := hid (G3.out.store1 8 (.int .i64 x3) (C' := [.string x1s, .int .i64 x1k, .int .i64 x1n, .string x1t, .string x2s, .int .i64 x2k, .int .i64 x2n, .string x2t, .int .i64 x3, .bool false]) rfl)
 clear c1 f1
 refine (rcount_walk R s3 1 _ F3.out.st).mono ?_
 rintro e w4 ⟨v4, x4, s4, rfl, ⟨rfl, hn⟩, hg, hst, hrel⟩
 have R4 := hid hrel
 have G4 := hid (F3.out.call hg hst)
 have c1 := G4.out.cell
 have f1 := G4.out.frozen
 have c0 := G4.out.cell0
 have f0 := G4.out.frozen0
 clear hn
 clear hg hst hrel
 go_wp2
 have F4 := hid (G4.out.store1 9 (.bool (x4 == 1)) (C' := [.string x1s, .int .i64 x1k, .int .i64 x1n, .string x1t, .string x2s, .int .i64 x2k, .int .i64 x2n, .string x2t, .int .i64 x3, .bool (x4 == 1)]) rfl)
 obtain ⟨q1, q2, q3⟩ := F4.out.fin rfl
 exact ret_cell rfl rfl (tyLnk ⟨⟨x1s, ⟨x1k, x1n, x1t⟩⟩, ⟨x2s, ⟨x2k, x2n, x2t⟩⟩, x3, x4 == 1⟩) q3 rfl ⟨_, ⟨⟨x1s, ⟨x1k, x1n, x1t⟩⟩, ⟨x2s, ⟨x2k, x2n, x2t⟩⟩, x3, x4 == 1⟩, s4, rfl, rfl, q1, q2, R1.out.bind (R2.out.bind (R3.out.bind (R4.out.bind (Rel.pure _ _))))⟩
theorem rHold_read {L : Nat} (R : Nat) (s : St) (w : World) (h : RSt 33 L w R s) :
   Calls Try.prog 84 #[.pointer (some ⟨R, 0, none⟩)] w (RdPost 33 L w R pHld s repHld) := by
 have hR := h.lt
 have HS0 := hid (h.kept (World.grownBy_alloc w (.cells [Value.int .i64 0, Value.int .i64 0, Value.string ⟨#[]⟩, Value.int .i64 0, Value.int .i64 0, Value.string ⟨#[]⟩, Value.int .i64 0, Value.int .i64 0, Value.int .i64 0].toArray 109) none))
 clear h
 go_enter Try.func84, Try.ntmps84
 go_wp2_with fail
 refine (rint_walk R s _ HS0.out).mono ?_
 rintro e w1 ⟨v1, x1, s1, rfl, ⟨rfl, hn⟩, hg, hst, hrel⟩
 have R1 := hid hrel
 have F1 := hid (FR.start1 109 [Value.int .i64 0, Value.int .i64 0, Value.string ⟨#[]⟩, Value.int .i64 0, Value.int .i64 0, Value.string ⟨#[]⟩, Value.int .i64 0, Value.int .i64 0, Value.int .i64 0] [Value.int .i64 x1, Value.int .i64 0, Value.string ⟨#[]⟩, Value.int .i64 0, Value.int .i64 0, Value.string ⟨#[]⟩, Value.int .i64 0, Value.int .i64 0, Value.int .i64 0] hR hg hst)
 have hBB := F1.out.hB
 clear hn
 clear hg hst hrel
 go_wp2_with fail
 refine (rint_walk R s1 _ F1.out.st).mono ?_
 rintro e w2 ⟨v2, x2, s2, rfl, ⟨rfl, hn⟩, hg, hst, hrel⟩
 have R2 := hid hrel
 have G2 := hid (F1.out.call hg hst)
 have c1 := G2.out.cell
 have f1 := G2.out.frozen
 clear hn
 clear hg hst hrel
 go_wp2_with fail
 have F2 := hid (G2.out.store1 1 (.int .i64 x2) (C' := [.int .i64 x1, .int .i64 x2, .string ⟨#[]⟩, .int .i64 0, .int .i64 0, .string ⟨#[]⟩, .int .i64 0, .int .i64 0, .int .i64 0]) rfl)
 clear c1 f1
 refine (rIdentifier_read R s2 _ F2.out.st).mono ?_
 rintro e w3 ⟨v3, x3, s3, rfl, rfl, hg, hst, hrel⟩
 have R3 := hid hrel
 obtain ⟨x3s, x3k, x3n, x3t⟩ := x3
 have G3 := hid (F2.out.call hg hst)
 have c1 := G3.out.cell
 have f1 := G3.out.frozen
 clear hg hst hrel
 unfold valIdf idfcells
 go_wp2_with fail
 have F3 := hid (G3.out.stores 2 [.string x3s, .int .i64 x3k, .int .i64 x3n, .string x3t] (by simp) (C' := [.int .i64 x1, .int .i64 x2, .string x3s, .int .i64 x3k, .int .i64 x3n, .string x3t, .int .i64 0, .int .i64 0, .int .i64 0]) rfl)
 clear c1 f1
 refine (rint_walk R s3 _ F3.out.st).mono ?_
 rintro e w4 ⟨v4, x4, s4, rfl, ⟨rfl, hn⟩, hg, hst, hrel⟩
 have R4 := hid hrel
 have G4 := hid (F3.out.call hg hst)
 have c1 := G4.out.cell
 have f1 := G4.out.frozen
 clear hn
 clear hg hst hrel
 go_wp2_with fail
 have F4 := hid (G4.out.store1 6 (.int .i64 x4) (C' := [.int .i64 x1, .int .i64 x2, .string x3s, .int .i64 x3k, .int .i64 x3n, .string x3t, .int .i64 x4, .int .i64 0, .int .i64 0]) rfl)
 clear c1 f1
 refine (rint_walk R s4 _ F4.out.st).mono ?_
 rintro e w5 ⟨v5, x5, s5, rfl, ⟨rfl, hn⟩, hg, hst, hrel⟩
 have R5 := hid hrel
 have G5 := hid (F4.out.call hg hst)
 have c1 := G5.out.cell
 have f1 := G5.out.frozen
 clear hn
 clear hg hst hrel
 go_wp2_with fail
 have F5 := hid (G5.out.store1 7 (.int .i64 x5) (C' := [.int .i64 x1, .int .i64 x2, .string x3s, .int .i64 x3k, .int .i64 x3n, .string x3t, .int .i64 x4, .int .i64 x5, .int .i64 0]) rfl)
 clear c1 f1
 refine (rint_walk R s5 _ F5.out.st).mono ?_
 rintro e w6 ⟨v6, x6, s6, rfl, ⟨rfl, hn⟩, hg, hst, hrel⟩
 have R6 := hid hrel
 have G6 := hid (F5.out.call hg hst)
 have c1 := G6.out.cell
 have f1 := G6.out.frozen
 have c0 := G6.out.cell0
 have f0 := G6.out.frozen0
 clear hn
 clear hg hst hrel
 go_wp2
 have F6 := hid (G6.out.store1 8 (.int .i64 x6) (C' := [.int .i64 x1, .int .i64 x2, .string x3s, .int .i64 x3k, .int .i64 x3n, .string x3t, .int .i64 x4, .int .i64 x5, .int .i64 x6]) rfl)
 obtain ⟨q1, q2, q3⟩ := F6.out.fin rfl
 exact ret_cell rfl rfl (tyHld ⟨x1, x2, ⟨x3s, ⟨x3k, x3n, x3t⟩⟩, x4, x5, x6⟩) q3 rfl ⟨_, ⟨x1, x2, ⟨x3s, ⟨x3k, x3n, x3t⟩⟩, x4, x5, x6⟩, s6, rfl, rfl, q1, q2, R1.out.bind (R2.out.bind (R3.out.bind (R4.out.bind (R5.out.bind (R6.out.bind (Rel.pure _ _))))))⟩
theorem rRequest_read {L : Nat} (R : Nat) (s : St) (w : World) (h : RSt 33 L w R s) :
   Calls Try.prog 158 #[.pointer (some ⟨R, 0, none⟩)] w (RdPost 33 L w R pReq s repReq) := by
 have hR := h.lt
 have HS0 := hid (h.kept (World.grownBy_alloc w (.cells [Value.int .i64 0, Value.string ⟨#[]⟩, Value.int .i64 0, Value.int .i64 0, Value.string ⟨#[]⟩, Value.int .i64 0, Value.int .i64 0, Value.int .i64 0].toArray 105) none))
 clear h
 go_enter Try.func158, Try.ntmps158
 go_wp2_with fail
 refine (rint_walk R s _ HS0.out).mono ?_
 rintro e w1 ⟨v1, x1, s1, rfl, ⟨rfl, hn⟩, hg, hst, hrel⟩
 have R1 := hid hrel
 have F1 := hid (FR.start1 105 [Value.int .i64 0, Value.string ⟨#[]⟩, Value.int .i64 0, Value.int .i64 0, Value.string ⟨#[]⟩, Value.int .i64 0, Value.int .i64 0, Value.int .i64 0] [Value.int .i64 x1, Value.string ⟨#[]⟩, Value.int .i64 0, Value.int .i64 0, Value.string ⟨#[]⟩, Value.int .i64 0, Value.int .i64 0, Value.int .i64 0] hR hg hst)
 have hBB := F1.out.hB
 clear hn
 clear hg hst hrel
 go_wp2_with fail
 refine (rIdentifier_read R s1 _ F1.out.st).mono ?_
 rintro e w2 ⟨v2, x2, s2, rfl, rfl, hg, hst, hrel⟩
 have R2 := hid hrel
 obtain ⟨x2s, x2k, x2n, x2t⟩ := x2
 have G2 := hid (F1.out.call hg hst)
 have c1 := G2.out.cell
 have f1 := G2.out.frozen
 clear hg hst hrel
 unfold valIdf idfcells
 go_wp2_with fail
 have F2 := hid (G2.out.stores 1 [.string x2s, .int .i64 x2k, .int .i64 x2n, .string x2t] (by simp) (C' := [.int .i64 x1, .string x2s, .int .i64 x2k, .int .i64 x2n, .string x2t, .int .i64 0, .int .i64 0, .int .i64 0]) rfl)
 clear c1 f1
 refine (rint_walk R s2 _ F2.out.st).mono ?_
 rintro e w3 ⟨v3, x3, s3, rfl, ⟨rfl, hn⟩, hg, hst, hrel⟩
 have R3 := hid hrel
 have G3 := hid (F2.out.call hg hst)
 have c1 := G3.out.cell
 have f1 := G3.out.frozen
 clear hn
 clear hg hst hrel
 go_wp2_with fail
 have F3 := hid (G3.out.store1 5 (.int .i64 x3) (C' := [.int .i64 x1, .string x2s, .int .i64 x2k, .int .i64 x2n, .string x2t, .int .i64 x3, .int .i64 0, .int .i64 0]) rfl)
 clear c1 f1
 refine (rint_walk R s3 _ F3.out.st).mono ?_
 rintro e w4 ⟨v4, x4, s4, rfl, ⟨rfl, hn⟩, hg, hst, hrel⟩
 have R4 := hid hrel
 have G4 := hid (F3.out.call hg hst)
 have c1 := G4.out.cell
 have f1 := G4.out.frozen
 clear hn
 clear hg hst hrel
 go_wp2_with fail
 have F4 := hid (G4.out.store1 6 (.int .i64 x4) (C' := [.int .i64 x1, .string x2s, .int .i64 x2k, .int .i64 x2n, .string x2t, .int .i64 x3, .int .i64 x4, .int .i64 0]) rfl)
 clear c1 f1
 refine (rint_walk R s4 _ F4.out.st).mono ?_
 rintro e w5 ⟨v5, x5, s5, rfl, ⟨rfl, hn⟩, hg, hst, hrel⟩
 have R5 := hid hrel
 have G5 := hid (F4.out.call hg hst)
 have c1 := G5.out.cell
 have f1 := G5.out.frozen
 have c0 := G5.out.cell0
 have f0 := G5.out.frozen0
 clear hn
 clear hg hst hrel
 go_wp2
 have F5 := hid (G5.out.store1 7 (.int .i64 x5) (C' := [.int .i64 x1, .string x2s, .int .i64 x2k, .int .i64 x2n, .string x2t, .int .i64 x3, .int .i64 x4, .int .i64 x5]) rfl)
 obtain ⟨q1, q2, q3⟩ := F5.out.fin rfl
 exact ret_cell rfl rfl (tyReq ⟨x1, ⟨x2s, ⟨x2k, x2n, x2t⟩⟩, x3, x4, x5⟩) q3 rfl ⟨_, ⟨x1, ⟨x2s, ⟨x2k, x2n, x2t⟩⟩, x3, x4, x5⟩, s5, rfl, rfl, q1, q2, R1.out.bind (R2.out.bind (R3.out.bind (R4.out.bind (R5.out.bind (Rel.pure _ _)))))⟩
end Go.Proofs.Ytkeiffccllfkpaa
/- Lists of the reference's reader. (printed by gen_refls.py) -/
namespace Go.Proofs.Ytkeiffccllfkpaa
open Go.RowKit
set_option linter.unusedSimpArgs false
set_option linter.unusedVariables false
structure FB (T : TypeId) (L : Nat) (w W : World) (R B : Nat) (s : St) (TT : TypeId) (C : List Value) : Prop where
 lt : R < w.heap.size
 hB : w.heap.size ≤ B
 hg : w.grownBy W (some R)
 st : RSt T L W R s
 b1 : W.heap[B]? = some (.cells C.toArray TT (0, 0))
theorem FB.start {T : TypeId} {L : Nat} {w w1 : World} {R : Nat} {s : St} (TT : TypeId) (C : List Value) (h : R < w.heap.size) (hg : w.grownBy w1 (some R)) (hs : RSt T L w1 R s) : FB T L w (w1.alloc (.cells C.toArray TT)) R w1.heap.size s TT C :=
 ⟨h, hg.size, grown_trans hg (grown_none (World.grownBy_alloc w1 (.cells C.toArray TT) none)), hs.kept (World.grownBy_alloc w1 (.cells C.toArray TT) none), heap_at rfl⟩
theorem FB.call {T : TypeId} {L : Nat} {w W : World} {R B : Nat} {s : St} {TT : TypeId} {C : List Value} (h : FB T L w W R B s TT C) {W' : World} {s' : St} (hg : W.grownBy W' (some R)) (hs : RSt T L W' R s') : FB T L w W' R B s' TT C :=
 ⟨h.lt, h.hB, grown_trans h.hg hg, hs, row_of hg h.b1 (by have := h.lt; have := h.hB; simp; omega)⟩
theorem FB.store1 {T : TypeId} {L : Nat} {w W : World} {R B : Nat} {s : St} {TT : TypeId} {C : List Value} (h : FB T L w W R B s TT C) (o : Nat) (v : Value) {C' : List Value} (hC : C.set o v = C') : FB T L w (W.setCell ⟨B, o, none⟩ v) R B s TT C' := by
 have g := grown_setCell W ⟨B, o, none⟩ v
 refine ⟨h.lt, h.hB, grown_R h.hg g h.hB, h.st.past g (by have := h.lt; have := h.hB; show R < B; omega), ?_⟩
 subst hC
 have := heap_setCell_same W B o _ TT v h.b1
 simpa using this
theorem FB.cell {T : TypeId} {L : Nat} {w W : World} {R B : Nat} {s : St} {TT : TypeId} {C : List Value} (h : FB T L w W R B s TT C) : ∀ j, W.cell? ⟨B, j, none⟩ = C.toArray[j]? := fun j => cell_of_row W _ j _ _ _ h.b1
theorem FB.frozen {T : TypeId} {L : Nat} {w W : World} {R B : Nat} {s : St} {TT : TypeId} {C : List Value} (h : FB T L w W R B s TT C) : ∀ j, W.frozen? ⟨B, j, none⟩ = false := fun j => frozen_of_row W _ j _ _ h.b1
theorem FB.size {T : TypeId} {L : Nat} {w W : World} {R B : Nat} {s : St} {TT : TypeId} {C : List Value} (h : FB T L w W R B s TT C) : B + 1 ≤ W.heap.size := (Array.getElem?_eq_some_iff.1 h.b1).1
theorem grown_past {w W W' : World} {R : Nat} {row : Option Nat} (h : w.grownBy W (some R)) (g : W.grownBy W' row) (hr : ∀ k, row = some k → w.heap.size ≤ k) : w.grownBy W' (some R) :=
 ⟨g.os.trans h.os, g.tape.trans h.tape, g.output.trans h.output, Nat.le_trans h.size g.size, fun i hi hne => (g.block i (Nat.lt_of_lt_of_le hi h.size) (fun e => by have := hr i e.symm; omega)).trans (h.block i hi hne)⟩
theorem rRow_read {L : Nat} (R : Nat) (s : St) (w : World) (h : RSt 33 L w R s) :
   Calls Try.prog 77 #[.pointer (some ⟨R, 0, none⟩)] w (RdPost 33 L w R pRow s (repRow w.heap.size)) := by
 have hR := h.lt
 have HST := hid h
 clear h
 go_enter Try.func77, Try.ntmps77
 go_wp2_with fail
 refine (rcount_walk R s 16 _ HST.out).mono ?_
 rintro e w1 ⟨v1, n, s1, rfl, ⟨rfl, hn⟩, hg1, hst1, hrel1⟩
 have REL1 := hid hrel1
 have hin : ∀ r, s1 = .ok r → n ≤ 1000000 := fun r hr => by subst hr; have := (inIn_ok hrel1).2; omega
 have HIN := hid hin
 clear hrel1 hin
 go_wp2
 go_loopw [3, 5] (fun b i wr => ∃ (k : Nat) (xs : List V) (sk : St), k ≤ n.toNat ∧ i = .int .i64 k ∧ xs.length = k ∧ k ≤ 1000000 ∧ Own wr 67 3 b k (xs.flatMap vcells) ∧ Hi b w.heap.size ∧ w.grownBy wr (some R) ∧ RSt 33 L wr R sk ∧ Rel (pRep pV k) s1 xs sk) (fun _ i _ => n.toNat - (intOf i).toNat)
 case atStart => exact ⟨0, [], s1, Nat.zero_le _, rfl, rfl, Nat.zero_le _, Own.nil _ _ _, fun k hk => by simp [Value.ownBlock] at hk, hg1, hst1, Rel.pure _ _⟩
 case round =>
   obtain ⟨k, xs, sk, hk, rfl, hxl, hkm, hown, hhi, hgk, hstk, hrelk⟩ := hrel
   have OWN := hid hown
   have HHI := hid hhi
   have GK := hid hgk
   have SK := hid hstk
   have RK := hid hrelk
   obtain ⟨rv, er, hrow, hok, hbad⟩ := hstk.row
   obtain ⟨c0, c1, f0, f1⟩ := row2 hrow
   have hr2 := (Array.getElem?_eq_some_iff.1 hrow).1
   clear hown hhi hgk hstk hrelk hrow
   have HKM := hid hkm
   by_cases hlt : (k : Int) < n
   · have hsz := GK.out.size
     cases sk with
     | error ee =>
       obtain ⟨rfl, hne⟩ := hbad ee rfl
       have be : ((ee : Int) == 0) = false := by simp; omega
       have hs2 := hid (show Rel (pRep pV n.toNat) s1 xs (.error ee) from rep_err hk RK.out)
       clear hok hbad hkm hk
       go_wp2
       go_ret
       subst hxl
       exact ⟨_, xs, .error ee, rfl, ⟨Sl.of_own OWN.out, fun k hk => ⟨HHI.out k hk, Own.lt OWN.out k hk⟩, HKM.out⟩, GK.out, SK.out, REL1.out.bind hs2.out⟩
     | ok lk =>
       obtain ⟨rfl, _⟩ := hok lk rfl
       obtain ⟨l1, hl1⟩ := RK.out.was_ok
       have hn2 := HIN.out l1 hl1
       clear hok hbad hl1
       have hne : (Value.ownBlock u3) ≠ some R := fun e => by have := HHI.out _ e; omega
       go_wp2_with fail
       refine (rval_read R (.ok lk) wr SK.out).mono ?_
       rintro e w2 ⟨v2, x, s2, rfl, rfl, hg2, hst2, hrel2⟩
       have R2 := hid hrel2
       have G2 := hid hg2
       have S2 := hid hst2
       clear hg2 hrel2 hst2 c0 c1 f0 f1
       unfold vval
       obtain ⟨xk, xn, xt⟩ := x
       have hown2 := OWN.out.kept G2.out (.inr hne)
       go_wp2_with (at_builtin; go_must (refine wpList_pushH rowT rfl _ _ rfl _ _ _ rfl hown2 [.int .i64 xk, .int .i64 xn, .string xt] 1 w2.heap.size (by simp) rfl rfl rfl (by omega) ?_; intro v3 w3 hown4 hst4))
       go_roundw
       case measure => simp [intOf]; omega
       case rel =>
         have hb : ∀ k, u3.ownBlock = some k → w.heap.size ≤ k := fun k hk => HHI.out k hk
         exact ⟨k + 1, xs ++ [⟨xk, xn, xt⟩], s2, by omega, by go_num, by simp [hxl], by omega, by simpa [vcells] using hown4, HHI.out.step hst4 (by have := G2.out.size; omega), grown_past (grown_trans GK.out G2.out) hst4.1 hb, RSt.own S2.out hst4.1 (fun k hk => by have := hb k hk; omega), rep_snoc k RK.out R2.out⟩
   · have hkn : k = n.toNat := by omega
     have e1 : decide ((k : Int) < n) = false := decide_eq_false hlt
     have hrr := RK.out
     rw [hkn] at hrr
     have HRR := hid hrr
     clear hkn hlt hrr hok hbad hkm hk c0 c1 f0 f1
     go_wp2
     go_ret
     subst hxl
     exact ⟨_, xs, sk, rfl, ⟨Sl.of_own OWN.out, fun k hk => ⟨HHI.out k hk, Own.lt OWN.out k hk⟩, HKM.out⟩, GK.out, SK.out, REL1.out.bind HRR.out⟩
theorem rVersions_read {L : Nat} (R : Nat) (s : St) (w : World) (h : RSt 33 L w R s) :
   Calls Try.prog 81 #[.pointer (some ⟨R, 0, none⟩)] w (RdPost 33 L w R pVers s (repVers w.heap.size)) := by
 have hR := h.lt
 have HST := hid h
 clear h
 go_enter Try.func81, Try.ntmps81
 go_wp2_with fail
 refine (rcount_walk R s 512 _ HST.out).mono ?_
 rintro e w1 ⟨v1, n, s1, rfl, ⟨rfl, hn⟩, hg1, hst1, hrel1⟩
 have REL1 := hid hrel1
 have hin : ∀ r, s1 = .ok r → n ≤ 1000000 := fun r hr => by subst hr; have := (inIn_ok hrel1).2; omega
 have HIN := hid hin
 clear hrel1 hin
 go_wp2
 go_loopw [3, 5] (fun b i wr => ∃ (k : Nat) (xs : List Ver) (sk : St), k ≤ n.toNat ∧ i = .int .i64 k ∧ xs.length = k ∧ k ≤ 1000000 ∧ Own wr 169 3 b k (xs.flatMap vercells) ∧ Hi b w.heap.size ∧ w.grownBy wr (some R) ∧ RSt 33 L wr R sk ∧ Rel (pRep pVer k) s1 xs sk) (fun _ i _ => n.toNat - (intOf i).toNat)
 case atStart => exact ⟨0, [], s1, Nat.zero_le _, rfl, rfl, Nat.zero_le _, Own.nil _ _ _, fun k hk => by simp [Value.ownBlock] at hk, hg1, hst1, Rel.pure _ _⟩
 case round =>
   obtain ⟨k, xs, sk, hk, rfl, hxl, hkm, hown, hhi, hgk, hstk, hrelk⟩ := hrel
   have OWN := hid hown
   have HHI := hid hhi
   have GK := hid hgk
   have SK := hid hstk
   have RK := hid hrelk
   obtain ⟨rv, er, hrow, hok, hbad⟩ := hstk.row
   obtain ⟨c0, c1, f0, f1⟩ := row2 hrow
   have hr2 := (Array.getElem?_eq_some_iff.1 hrow).1
   clear hown hhi hgk hstk hrelk hrow
   have HKM := hid hkm
   by_cases hlt : (k : Int) < n
   · have hsz := GK.out.size
     cases sk with
     | error ee =>
       obtain ⟨rfl, hne⟩ := hbad ee rfl
       have be : ((ee : Int) == 0) = false := by simp; omega
       have hs2 := hid (show Rel (pRep pVer n.toNat) s1 xs (.error ee) from rep_err hk RK.out)
       clear hok hbad hkm hk
       go_wp2
       go_ret
       subst hxl
       exact ⟨_, xs, .error ee, rfl, ⟨Sl.of_own OWN.out, fun k hk => ⟨HHI.out k hk, Own.lt OWN.out k hk⟩, HKM.out⟩, GK.out, SK.out, REL1.out.bind hs2.out⟩
     | ok lk =>
       obtain ⟨rfl, _⟩ := hok lk rfl
       obtain ⟨l1, hl1⟩ := RK.out.was_ok
       have hn2 := HIN.out l1 hl1
       clear hok hbad hl1
       have hne : (Value.ownBlock u3) ≠ some R := fun e => by have := HHI.out _ e; omega
       go_wp2_with fail
       refine (rint_walk R (.ok lk) wr SK.out).mono ?_
       rintro e w2 ⟨v2, x1, s2, rfl, ⟨rfl, hn1⟩, hg2, hst2, hrel2⟩
       have R1 := hid hrel2
       have F1 := hid (FB.start 169 [.int .i64 x1, .int .i64 0, .int .i64 0] hr2 hg2 hst2)
       clear hn1 hg2 hst2 hrel2 c0 c1 f0 f1 hr2
       go_wp2_with fail
       refine (rint_walk R s2 _ F1.out.st).mono ?_
       rintro e w3 ⟨v3, x2, s3, rfl, ⟨rfl, hn1⟩, hg2, hst2, hrel2⟩
       have R2 := hid hrel2
       have G2 := hid (F1.out.call hg2 hst2)
       have F2 := hid (G2.out.store1 2 (.int .i64 x2) (C' := [.int .i64 x1, .int .i64 0, .int .i64 x2]) rfl)
       have c1 := G2.out.cell
       have f1 := G2.out.frozen
       clear hn1 hg2 hst2 hrel2
       go_wp2_with fail
       clear c1 f1
       refine (rint_walk R s3 _ F2.out.st).mono ?_
       rintro e w4 ⟨v4, x3, s4, rfl, ⟨rfl, hn1⟩, hg2, hst2, hrel2⟩
       have R3 := hid hrel2
       have G3 := hid (F2.out.call hg2 hst2)
       have F3 := hid (G3.out.store1 1 (.int .i64 x3) (C' := [.int .i64 x1, .int .i64 x3, .int .i64 x2]) rfl)
       have c1 := G3.out.cell
       have f1 := G3.out.frozen
       clear hn1 hg2 hst2 hrel2
       have hown2 := OWN.out.kept F3.out.hg (.inr hne)
       go_wp2_with (at_builtin; go_must (refine wpList_pushH versT rfl _ _ rfl _ _ _ rfl hown2 [.int .i64 x1, .int .i64 x3, .int .i64 x2] 1 w4.heap.size (by simp) rfl rfl rfl (by omega) ?_; intro v3 w3 hown4 hst4))
       go_roundw
       case measure => simp [intOf]; omega
       case rel =>
         have hb : ∀ k, u3.ownBlock = some k → w.heap.size ≤ k := fun k hk => HHI.out k hk
         have hsz2 := F3.out.hg.size
         exact ⟨k + 1, xs ++ [⟨x1, x3, x2⟩], s4, by omega, by go_num, by simp [hxl], by omega, by simpa [vercells] using hown4, HHI.out.step hst4 (by omega), grown_past (grown_trans GK.out F3.out.hg) hst4.1 hb, RSt.own F3.out.st hst4.1 (fun k hk => by have := hb k hk; omega), rep_snoc k RK.out (R1.out.bind (R2.out.bind (R3.out.bind (Rel.pure _ _))))⟩
   · have hkn : k = n.toNat := by omega
     have e1 : decide ((k : Int) < n) = false := decide_eq_false hlt
     have hrr := RK.out
     rw [hkn] at hrr
     have HRR := hid hrr
     clear hkn hlt hrr hok hbad hkm hk c0 c1 f0 f1
     go_wp2
     go_ret
     subst hxl
     exact ⟨_, xs, sk, rfl, ⟨Sl.of_own OWN.out, fun k hk => ⟨HHI.out k hk, Own.lt OWN.out k hk⟩, HKM.out⟩, GK.out, SK.out, REL1.out.bind HRR.out⟩
theorem rSources_read {L : Nat} (R : Nat) (s : St) (w : World) (h : RSt 33 L w R s) :
   Calls Try.prog 82 #[.pointer (some ⟨R, 0, none⟩)] w (RdPost 33 L w R pSrcs s (repSrcs w.heap.size)) := by
 have hR := h.lt
 have HST := hid h
 clear h
 go_enter Try.func82, Try.ntmps82
 go_wp2_with fail
 refine (rcount_walk R s 512 _ HST.out).mono ?_
 rintro e w1 ⟨v1, n, s1, rfl, ⟨rfl, hn⟩, hg1, hst1, hrel1⟩
 have REL1 := hid hrel1
 have hin : ∀ r, s1 = .ok r → n ≤ 1000000 := fun r hr => by subst hr; have := (inIn_ok hrel1).2; omega
 have HIN := hid hin
 clear hrel1 hin
 go_wp2
 go_loopw [3, 5] (fun b i wr => ∃ (k : Nat) (xs : List Src) (sk : St), k ≤ n.toNat ∧ i = .int .i64 k ∧ xs.length = k ∧ k ≤ 1000000 ∧ Own wr 171 2 b k (xs.flatMap srccells) ∧ Hi b w.heap.size ∧ w.grownBy wr (some R) ∧ RSt 33 L wr R sk ∧ Rel (pRep pSrc k) s1 xs sk) (fun _ i _ => n.toNat - (intOf i).toNat)
 case atStart => exact ⟨0, [], s1, Nat.zero_le _, rfl, rfl, Nat.zero_le _, Own.nil _ _ _, fun k hk => by simp [Value.ownBlock] at hk, hg1, hst1, Rel.pure _ _⟩
 case round =>
   obtain ⟨k, xs, sk, hk, rfl, hxl, hkm, hown, hhi, hgk, hstk, hrelk⟩ := hrel
   have OWN := hid hown
   have HHI := hid hhi
   have GK := hid hgk
   have SK := hid hstk
   have RK := hid hrelk
   obtain ⟨rv, er, hrow, hok, hbad⟩ := hstk.row
   obtain ⟨c0, c1, f0, f1⟩ := row2 hrow
   have hr2 := (Array.getElem?_eq_some_iff.1 hrow).1
   clear hown hhi hgk hstk hrelk hrow
   have HKM := hid hkm
   by_cases hlt : (k : Int) < n
   · have hsz := GK.out.size
     cases sk with
     | error ee =>
       obtain ⟨rfl, hne⟩ := hbad ee rfl
       have be : ((ee : Int) == 0) = false := by simp; omega
       have hs2 := hid (show Rel (pRep pSrc n.toNat) s1 xs (.error ee) from rep_err hk RK.out)
       clear hok hbad hkm hk
       go_wp2
       go_ret
       subst hxl
       exact ⟨_, xs, .error ee, rfl, ⟨Sl.of_own OWN.out, fun k hk => ⟨HHI.out k hk, Own.lt OWN.out k hk⟩, HKM.out⟩, GK.out, SK.out, REL1.out.bind hs2.out⟩
     | ok lk =>
       obtain ⟨rfl, _⟩ := hok lk rfl
       obtain ⟨l1, hl1⟩ := RK.out.was_ok
       have hn2 := HIN.out l1 hl1
       clear hok hbad hl1
       have hne : (Value.ownBlock u3) ≠ some R := fun e => by have := HHI.out _ e; omega
       go_wp2_with fail
       refine (rint_walk R (.ok lk) wr SK.out).mono ?_
       rintro e w2 ⟨v2, x1, s2, rfl, ⟨rfl, hn1⟩, hg2, hst2, hrel2⟩
       have R1 := hid hrel2
       have F1 := hid (FB.start 171 [.int .i64 x1, .int .i64 0] hr2 hg2 hst2)
       clear hn1 hg2 hst2 hrel2 c0 c1 f0 f1 hr2
       go_wp2_with fail
       refine (rint_walk R s2 _ F1.out.st).mono ?_
       rintro e w3 ⟨v3, x2, s3, rfl, ⟨rfl, hn1⟩, hg2, hst2, hrel2⟩
       have R2 := hid hrel2
       have G2 := hid (F1.out.call hg2 hst2)
       have F2 := hid (G2.out.store1 1 (.int .i64 x2) (C' := [.int .i64 x1, .int .i64 x2]) rfl)
       have c1 := G2.out.cell
       have f1 := G2.out.frozen
       clear hn1 hg2 hst2 hrel2
       have hown2 := OWN.out.kept F2.out.hg (.inr hne)
       go_wp2_with (at_builtin; go_must (refine wpList_pushH srcsT rfl _ _ rfl _ _ _ rfl hown2 [.int .i64 x1, .int .i64 x2] 1 w3.heap.size (by simp) rfl rfl rfl (by omega) ?_; intro v3 w3 hown4 hst4))
       go_roundw
       case measure => simp [intOf]; omega
       case rel =>
         have hb : ∀ k, u3.ownBlock = some k → w.heap.size ≤ k := fun k hk => HHI.out k hk
         have hsz2 := F2.out.hg.size
         exact ⟨k + 1, xs ++ [⟨x1, x2⟩], s3, by omega, by go_num, by simp [hxl], by omega, by simpa [srccells] using hown4, HHI.out.step hst4 (by omega), grown_past (grown_trans GK.out F2.out.hg) hst4.1 hb, RSt.own F2.out.st hst4.1 (fun k hk => by have := hb k hk; omega), rep_snoc k RK.out (R1.out.bind (R2.out.bind (Rel.pure _ _)))⟩
   · have hkn : k = n.toNat := by omega
     have e1 : decide ((k : Int) < n) = false := decide_eq_false hlt
     have hrr := RK.out
     rw [hkn] at hrr
     have HRR := hid hrr
     clear hkn hlt hrr hok hbad hkm hk c0 c1 f0 f1
     go_wp2
     go_ret
     subst hxl
     exact ⟨_, xs, sk, rfl, ⟨Sl.of_own OWN.out, fun k hk => ⟨HHI.out k hk, Own.lt OWN.out k hk⟩, HKM.out⟩, GK.out, SK.out, REL1.out.bind HRR.out⟩
theorem rBag_read {L : Nat} (R : Nat) (s : St) (w : World) (h : RSt 33 L w R s) :
   Calls Try.prog 79 #[.pointer (some ⟨R, 0, none⟩)] w (RdPost 33 L w R pBag s (repBag w.heap.size)) := by
 have hR := h.lt
 have HST := hid h
 clear h
 go_enter Try.func79, Try.ntmps79
 go_wp2_with fail
 refine (rcount_walk R s 4096 _ HST.out).mono ?_
 rintro e w1 ⟨v1, n, s1, rfl, ⟨rfl, hn⟩, hg1, hst1, hrel1⟩
 have REL1 := hid hrel1
 have hin : ∀ r, s1 = .ok r → n ≤ 1000000 := fun r hr => by subst hr; have := (inIn_ok hrel1).2; omega
 have HIN := hid hin
 clear hrel1 hin
 go_wp2
 go_loopw [3, 5] (fun b i wr => ∃ (k : Nat) (xs : List (Value × En)) (sk : St), k ≤ n.toNat ∧ i = .int .i64 k ∧ xs.length = k ∧ k ≤ 1000000 ∧ Own wr 78 2 b k (xs.flatMap ecells) ∧ BR w.heap.size wr b xs ∧ Hi b w.heap.size ∧ w.grownBy wr (some R) ∧ RSt 33 L wr R sk ∧ Rel (pRep pEn k) s1 (xs.map (·.2)) sk) (fun _ i _ => n.toNat - (intOf i).toNat)
 case atStart => exact ⟨0, [], s1, Nat.zero_le _, rfl, rfl, Nat.zero_le _, Own.nil _ _ _, fun p hp => by simp at hp, fun k hk => by simp [Value.ownBlock] at hk, hg1, hst1, Rel.pure _ _⟩
 case round =>
   obtain ⟨k, xs, sk, hk, rfl, hxl, hkm, hown, hbr, hhi, hgk, hstk, hrelk⟩ := hrel
   have OWN := hid hown
   have HBR := hid hbr
   have HHI := hid hhi
   have GK := hid hgk
   have SK := hid hstk
   have RK := hid hrelk
   obtain ⟨rv, er, hrow, hok, hbad⟩ := hstk.row
   obtain ⟨c0, c1, f0, f1⟩ := row2 hrow
   have hr2 := (Array.getElem?_eq_some_iff.1 hrow).1
   clear hown hhi hgk hstk hrelk hrow hbr
   have HKM := hid hkm
   by_cases hlt : (k : Int) < n
   · have hsz := GK.out.size
     cases sk with
     | error ee =>
       obtain ⟨rfl, hne⟩ := hbad ee rfl
       have be : ((ee : Int) == 0) = false := by simp; omega
       have hs2 := hid (show Rel (pRep pEn n.toNat) s1 (xs.map (·.2)) (.error ee) from rep_err hk RK.out)
       clear hok hbad hkm hk
       go_wp2
       go_ret
       subst hxl
       exact ⟨_, xs.map (·.2), .error ee, rfl, ⟨xs, rfl, Sl.of_own OWN.out, (fun k hk => ⟨HHI.out k hk, Own.lt OWN.out k hk⟩), fun p hp => (HBR.out p hp).1⟩, GK.out, SK.out, REL1.out.bind hs2.out⟩
     | ok lk =>
       obtain ⟨rfl, _⟩ := hok lk rfl
       obtain ⟨l1, hl1⟩ := RK.out.was_ok
       have hn2 := HIN.out l1 hl1
       clear hok hbad hl1
       have hne : (Value.ownBlock u3) ≠ some R := fun e => by have := HHI.out _ e; omega
       go_wp2_with fail
       refine (rRow_read R (.ok lk) wr SK.out).mono ?_
       rintro e w2 ⟨v2, xr, s2, rfl, hrr, hg2, hst2, hrel2⟩
       have R1 := hid hrel2
       have G1 := hid hg2
       obtain ⟨ao, cap, rfl, _, _⟩ := hrr.1.shape
       have HRR := hid hrr
       have S2 := hid hst2
       clear hg2 hrel2 hst2 hrr c0 c1 f0 f1
       go_wp2_with fail
       refine (rint_walk R s2 _ S2.out).mono ?_
       rintro e w3 ⟨v3, xc, s3, rfl, ⟨rfl, hn1⟩, hg2, hst2, hrel2⟩
       have R2 := hid hrel2
       have G2 := hid hg2
       have S3 := hid hst2
       clear hn1 hg2 hrel2 hst2
       have hown2 := (OWN.out.kept G1.out (.inr hne)).kept G2.out (.inr hne)
       go_wp2_with (at_builtin; go_must (refine wpList_pushH bagT rfl _ _ rfl _ _ _ rfl hown2 [.slice ao xr.length cap, .int .i64 xc] 1 w3.heap.size (by simp) rfl rfl rfl (by omega) ?_; intro v4 w4 hown4 hst4))
       go_roundw
       case measure => simp [intOf]; omega
       case rel =>
         have hb : ∀ k, u3.ownBlock = some k → w.heap.size ≤ k := fun k hk => HHI.out k hk
         have hz1 := G1.out.size
         have hz2 := G2.out.size
         refine ⟨k + 1, xs ++ [(.slice ao xr.length cap, ⟨xr, xc⟩)], s3, by omega, by go_num, by simp [hxl], by omega, by simpa [ecells] using hown4, ?_, HHI.out.step hst4 (by omega), grown_past (grown_trans (grown_trans GK.out G1.out) G2.out) hst4.1 hb, RSt.own S3.out hst4.1 (fun k hk => by have := hb k hk; omega), ?_⟩
         · refine BR.step (BR.add (fun p hp => ?_) ((HRR.out.past G2.out (by omega)).down (L' := w.heap.size) (by omega)) ?_) hst4
           · exact ((HBR.out.call G1.out hR).call G2.out hR) p hp
           · intro q hq e
             have h1 := (HRR.out.2 q e).1
             have h2 := Own.lt OWN.out q hq
             omega
         · rw [List.map_append]
           exact rep_snoc k RK.out (R1.out.bind (R2.out.bind (Rel.pure _ _)))
   · have hkn : k = n.toNat := by omega
     have e1 : decide ((k : Int) < n) = false := decide_eq_false hlt
     have hrr := RK.out
     rw [hkn] at hrr
     have HRR := hid hrr
     clear hkn hlt hrr hok hbad hkm hk c0 c1 f0 f1
     go_wp2
     go_ret
     subst hxl
     exact ⟨_, xs.map (·.2), sk, rfl, ⟨xs, rfl, Sl.of_own OWN.out, (fun k hk => ⟨HHI.out k hk, Own.lt OWN.out k hk⟩), fun p hp => (HBR.out p hp).1⟩, GK.out, SK.out, REL1.out.bind HRR.out⟩
end Go.Proofs.Ytkeiffccllfkpaa
