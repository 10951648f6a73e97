/- Leases: Acquire. -/
import Derived.Test.YtafippjpaakonaaW10
namespace Go.Proofs.Ytafippjpaakonaa
open Go.RowKit
set_option linter.unusedSimpArgs false
set_option linter.unusedVariables false
set_option maxRecDepth 100000 in
set_option maxHeartbeats 2000000 in
theorem acquire_found (t : Tb) (n h now d : Int) (s : Value) (w : World) (hR : Rd w s t.ls) (hn : t.ls.length ≤ 1000000) (h1 : t.ok = true) (h2 : timely now d = true) (x : Ls) (h3 : look n t.ls = some x) :
    Calls Try.prog 11 #[tval t.next s, .int .i64 n, .int .i64 h, .int .i64 now, .int .i64 d] w (AcqPost (acq cds t n h now d) w) := by
  obtain ⟨next, l⟩ := t
  simp only at hR hn h3 ⊢
  have hvt : vT now = true ∧ vD d = true := by rw [timely_eq, Bool.and_eq_true] at h2; exact h2
  have HVT := hid hvt
  have HTM := hid h2
  have hA := ((Tb.ok_iff _).1 h1).2.1
  have hB := ((Tb.ok_iff _).1 h1).1
  simp only at hA hB
  have HOK := hid h1
  have HA := hid hA
  have HBB := hid hB
  have HLK := hid h3
  clear hvt hA hB h1 h2 h3
  obtain ⟨ao, cap, rfl, hc1, hc2⟩ := Sl.shape hR
  have HR := hid hR
  obtain ⟨r, hr⟩ : ∃ r, r = acq cds ⟨next, l⟩ n h now d := ⟨_, rfl⟩
  rw [← hr]
  have HRR := hid hr
  clear hR hr
  unfold tval
  obtain ⟨W, hW⟩ : ∃ W, W = (((w.alloc (.cells #[.int .i64 next, .slice ao l.length cap] 24)).alloc (.cells #[.int .i64 0, .slice none 0 0] 24)).alloc (.cells #[.int .i64 0] 3)).alloc (.cells #[.int .i64 0] 26) := ⟨_, rfl⟩
  have F0 := hid (show AF w W next (.slice ao l.length cap) [.int .i64 0, .slice none 0 0] (.int .i64 0) (.int .i64 0) from by
    rw [hW]
    exact ⟨grown_trans (grown_trans (grown_trans (World.grownBy_alloc _ _ _) (World.grownBy_alloc _ _ _)) (World.grownBy_alloc _ _ _)) (World.grownBy_alloc _ _ _),
      by rw [heap_past (by simp <;> omega), heap_past (by simp <;> omega), heap_past (by simp <;> omega), heap_at rfl],
      by rw [heap_past (by simp <;> omega), heap_past (by simp <;> omega), heap_at (by simp <;> omega)],
      by rw [heap_past (by simp <;> omega), heap_at (by simp <;> omega)],
      by rw [heap_at (by simp <;> omega)]⟩)
  have HWW := hid hW
  clear hW
  have hmf : ∀ (fn : Fn) (first cap : Array Value) (w : World), (Instr.makeFunc fn first cap).run Try.prog w = .ok (.func fn first cap) w := fun _ _ _ _ => rfl
  go_enter_defers Try.func11, Try.ntmps11
  go_wp2_with fail
  rw [← HWW.out]
  refine (valid_walk l next _ W (Sl.kn HR.out F0.out.g) (by omega)).mono ?_
  rintro e w1 ⟨rfl, g1⟩
  have F1 := hid (F0.out.call g1)
  clear g1 hmf HWW
  rw [HOK.out]
  go_wp2_with fail
  refine (validTime_walk now _).mono ?_
  rintro e w' ⟨rfl, rfl⟩
  rw [HVT.out.1]
  go_wp2_with fail
  refine (validDuration_walk d _).mono ?_
  rintro e w' ⟨rfl, rfl⟩
  rw [HVT.out.2]
  have c0 : w'.cell? ⟨w.heap.size, 0, none⟩ = some (.int .i64 next) := by rw [cell_of_row _ _ _ _ _ _ F1.out.b0]; rfl
  have c1 : w'.cell? ⟨w.heap.size, 1, none⟩ = some (.slice ao l.length cap) := by rw [cell_of_row _ _ _ _ _ _ F1.out.b0]; rfl
  go_wp2_with fail
  refine (search_walk l next n _ _ (Sl.kn HR.out F1.out.g) HA.out hn).mono ?_
  rintro e w2 ⟨rfl, g2⟩
  have F2 := hid (F1.out.call g2)
  clear g2 c0 c1
  have c0 : w2.cell? ⟨w.heap.size, 0, none⟩ = some (.int .i64 next) := by rw [cell_of_row _ _ _ _ _ _ F2.out.b0]; rfl
  have c1 : w2.cell? ⟨w.heap.size, 1, none⟩ = some (.slice ao l.length cap) := by rw [cell_of_row _ _ _ _ _ _ F2.out.b0]; rfl
  obtain ⟨hk, hx⟩ := look_place HA.out HLK.out
  have HX := hid hx
  clear hx
  obtain ⟨b, off, rfl⟩ := Rd.base HR.out (by omega)
  obtain ⟨d0, d1, d2, d3⟩ := Rd.four (Sl.kn HR.out F2.out.g) _ hk
  rw [HX.out] at d0 d1 d2 d3
  generalize hkk : (lo n l).length = k at *
  have HKK := hid hkk
  clear hkk
  have i1 : (0 : Int) ≤ (k : Int) := by omega
  have i2 : (k : Int) < (l.length : Int) := by omega
  rw [HLK.out]
  simp only [Option.isSome_some]
  go_wp2_with fail
  refine (expired_walk x now _).mono ?_
  rintro e w3 ⟨rfl, g3⟩
  have F3 := hid (F2.out.call g3)
  clear g3 d0 d1 d2 d3 c0 c1
  have c0 : w3.cell? ⟨w.heap.size, 0, none⟩ = some (.int .i64 next) := by rw [cell_of_row _ _ _ _ _ _ F3.out.b0]; rfl
  have c1 : w3.cell? ⟨w.heap.size, 1, none⟩ = some (.slice (some ⟨b, off, none⟩) l.length cap) := by rw [cell_of_row _ _ _ _ _ _ F3.out.b0]; rfl
  by_cases hxt : x.till ≤ now
  · have dx : decide (x.till ≤ now) = true := decide_eq_true hxt
    have HXT := hid hxt
    clear hxt
    by_cases hT : next = 1099511627776
    · have dT : (next == 1099511627776) = true := by simp [hT]
      have HT := hid hT
      clear hT
      have hr : r = (.zero, 0, 8) := HRR.out.trans (acq_full1 HOK.out HTM.out HLK.out (by have := HXT.out; omega) HT.out)
      have HE := hid hr
      clear hr
      go_wp2_with (first
        | (refine wpList_storeTYg rfl 24 (.tmp 10) (.tmp 62) rfl rfl rfl (tyT 0 none 0 0) F3.out.b1 rfl ?_; intro w5 g5 h5; have E1 := hid (F3.out.s1 g5 h5); clear g5 h5)
        | (refine wpList_storeTYg rfl 3 (.tmp 11) (.const (.int .i64 0)) rfl rfl rfl (tyI 0) E1.out.b2 rfl ?_; intro w6 g6 h6; have E2 := hid (E1.out.s2 g6 h6); clear g6 h6)
        | (refine wpList_storeTYg rfl 26 (.tmp 12) (.const (.int .i64 8)) rfl rfl rfl (tyE 8) E2.out.b3 rfl ?_; intro w7 g7 h7; have E3 := hid (E2.out.s3 g7 h7); clear g7 h7)
        | fail)
      refine leaves_cons (f := 24) (args := #[.pointer (some ⟨w.heap.size + 1, 0, none⟩), .pointer (some ⟨w.heap.size + 1 + 1, 0, none⟩), .pointer (some ⟨w.heap.size + 1 + 1 + 1, 0, none⟩)]) (by simp) (by simp [go_sem]) ?_
      refine (recAcq_walk _ _ _ _).mono ?_
      rintro e u' w'' ⟨rfl, rfl, rfl⟩
      exact ⟨_, results3 rfl rfl rfl rfl (tyT _ _ _ _) (tyI _) (tyE _) E3.out.b1 E3.out.b2 E3.out.b3, by rw [HE.out]; exact ⟨.slice none 0 0, rfl, Sl.nil _ _, E3.out.g⟩⟩
    · have dT : (next == 1099511627776) = false := by simp [hT]
      have HT := hid (show ¬ next = Top from hT)
      clear hT
      have hbt : -1099511627776 ≤ now ∧ now ≤ 1099511627776 ∧ 1 ≤ d ∧ d ≤ 1099511627776 := by have := HTM.out; unfold timely Top at this; simp at this; omega
      obtain ⟨b1, b2, b3, b4⟩ := hbt
      have hn1 : 1 ≤ next ∧ next ≤ 1099511627776 := ⟨HBB.out.1, HBB.out.2.1⟩
      obtain ⟨n1, n2⟩ := hn1
      obtain ⟨y, hy⟩ : ∃ y : Ls, y = ⟨n, h, next, now + d⟩ := ⟨_, rfl⟩
      have hr : r = (⟨next + 1, ins y l⟩, next, 0) := by rw [hy]; exact HRR.out.trans (acq_ok1 HOK.out HTM.out HLK.out (by have := HXT.out; omega) HT.out)
      have HE := hid hr
      have HY := hid hy
      clear hr hy
      have ga := World.grownBy_alloc w3 (.cells #[.int .i64 n, .int .i64 h, .int .i64 next, .int .i64 (now + d)] 38) none
      have hb15 := heap_at (w := w3) (o := .cells #[.int .i64 n, .int .i64 h, .int .i64 next, .int .i64 (now + d)] 38) rfl
      have e0 : (w3.alloc (.cells #[.int .i64 n, .int .i64 h, .int .i64 next, .int .i64 (now + d)] 38)).cell? ⟨w.heap.size, 0, none⟩ = some (.int .i64 next) := ga.cell c0 (by simp)
      have e1 : (w3.alloc (.cells #[.int .i64 n, .int .i64 h, .int .i64 next, .int .i64 (now + d)] 38)).cell? ⟨w.heap.size, 1, none⟩ = some (.slice (some ⟨b, off, none⟩) l.length cap) := ga.cell c1 (by simp)
      go_wp2_with fail
      generalize w3.alloc (.cells #[.int .i64 n, .int .i64 h, .int .i64 next, .int .i64 (now + d)] 38) = W4 at *
      have F4 := hid (F3.out.call ga)
      have Z3 := hid (show w.heap.size + 1 + 1 + 1 < w3.heap.size from (Array.getElem?_eq_some_iff.1 F3.out.b3).1)
      refine (clone_walk l next _ W4 (Sl.kn HR.out F4.out.g) hn).mono ?_
      rintro e w5 ⟨v, rfl, hown, hf⟩
      obtain ⟨g, cap2, rfl⟩ := hown.shp (by omega)
      have hg4 : W4.heap.size ≤ g := by rcases hf.2 g rfl with h | h; · simp [Value.ownBlock] at h
                                        · exact h
      have F5 := hid (F4.out.call (Step.none hf))
      have B15 := hid (show w5.heap[w3.heap.size]? = some (.cells (lcells y).toArray 38 (0, 0)) by rw [HY.out]; exact row_of (Step.none hf) hb15 (by simp))
      have HG4 := hid (show w3.heap.size < g by have := (Array.getElem?_eq_some_iff.1 hb15).1; omega)
      have O5 := hid hown
      clear hown hf hg4 hb15 ga c0 c1 e0 e1 dx dT
      go_wp2_with (first
        | (refine wpList_storeTYg rfl 24 (.tmp 10) (.tmp 72) rfl rfl rfl (tyT _ _ _ _) F5.out.b1 rfl ?_; intro w6 g6 h6; have F6 := hid (F5.out.s1 g6 h6); have O6 := hid (Own.past O5.out g6 F5.out.b1 (by decide)); have B6 := hid (row_of g6 B15.out (by have := Z3.out; simp <;> omega)); have q1 : w6.cell? ⟨w.heap.size + 1, 1, none⟩ = some (.slice (some ⟨g, 0, none⟩) l.length cap2) := (by rw [cell_of_row _ _ _ _ _ _ h6]; rfl); obtain ⟨D, hD, _, _, hDl, _⟩ := O6.out.blk; have HD := hid hD; have HDL := hid (show k * 4 + (lcells y).length ≤ D.length by rw [hDl]; simp [lcells]; have := HX.out; omega); clear g6 h6 hD hDl)
        | (refine wpList_loadTY rfl 38 (.tmp 15) rfl rfl (tyL y) B6.out ?_)
        | (refine wpList_storeAt rfl 38 (.tmp 78) (.tmp 77) rfl rfl rfl (tyL y) HD.out HDL.out ?_; intro w7 g7 h7; have O7 := hid (Own.put1 O6.out hk y HD.out h7); have F7 := hid (F6.out.far g7 (by have := HG4.out; have := Z3.out; omega)); have B7 := hid (row_of g7 B6.out (by have := HG4.out; simp <;> omega)); have p0 : w7.cell? ⟨w.heap.size + 1, 0, none⟩ = some (.int .i64 next) := (by rw [cell_of_row _ _ _ _ _ _ F7.out.b1]; rfl); clear g7 h7 q1)
        | (refine wpList_storeAt rfl 3 (.tmp 89) (.tmp 88) rfl rfl rfl (tyI (next + 1)) F7.out.b1 (by simp) ?_; intro w8 g8 h8; have F8 := hid (F7.out.s1 (A' := [.int .i64 (next + 1), .slice (some ⟨g, 0, none⟩) l.length cap2]) g8 h8); have O8 := hid (Own.past O7.out g8 F7.out.b1 (by decide)); have B8 := hid (row_of g8 B7.out (by have := Z3.out; simp <;> omega)); clear g8 h8 p0)
        | fail)
      have z3 := Z3.out
      have a0 : w8.cell? ⟨w.heap.size + 1, 0, none⟩ = some (.int .i64 (next + 1)) := by rw [cell_of_row _ _ _ _ _ _ F8.out.b1]; rfl
      have a1 : w8.cell? ⟨w.heap.size + 1, 1, none⟩ = some (.slice (some ⟨g, 0, none⟩) l.length cap2) := by rw [cell_of_row _ _ _ _ _ _ F8.out.b1]; rfl
      have a2 : w8.cell? ⟨w.heap.size + 1 + 1, 0, none⟩ = some (.int .i64 0) := by rw [cell_of_row _ _ _ _ _ _ F8.out.b2]; rfl
      have a3 : w8.cell? ⟨w.heap.size + 1 + 1 + 1, 0, none⟩ = some (.int .i64 0) := by rw [cell_of_row _ _ _ _ _ _ F8.out.b3]; rfl
      have a4 : w8.cell? ⟨w3.heap.size, 2, none⟩ = some (.int .i64 next) := by rw [cell_of_row _ _ _ _ _ _ B8.out, HY.out]; rfl
      have f0 : w8.frozen? ⟨w.heap.size + 1, 0, none⟩ = false := frozen_of_row _ _ _ _ _ F8.out.b1
      have f1 : w8.frozen? ⟨w.heap.size + 1, 1, none⟩ = false := frozen_of_row _ _ _ _ _ F8.out.b1
      have f2 : w8.frozen? ⟨w.heap.size + 1 + 1, 0, none⟩ = false := frozen_of_row _ _ _ _ _ F8.out.b2
      have f3 : w8.frozen? ⟨w.heap.size + 1 + 1 + 1, 0, none⟩ = false := frozen_of_row _ _ _ _ _ F8.out.b3
      refine wp_region_noPanic ?_
      go_region
      all_goals
        refine NoPanic.normal ?_
        go_wp2
        refine leaves_cons (f := 24) (args := #[.pointer (some ⟨w.heap.size + 1, 0, none⟩), .pointer (some ⟨w.heap.size + 1 + 1, 0, none⟩), .pointer (some ⟨w.heap.size + 1 + 1 + 1, 0, none⟩)]) (by simp) (by simp [go_sem]) ?_
        refine (recAcq_walk _ _ _ _).mono ?_
        rintro e u' w'' ⟨rfl, rfl, rfl⟩
        have FZ := AF.fin F8.out (.int .i64 (next + 1)) (.slice (some ⟨g, 0, none⟩) l.length cap2) (.int .i64 next) (.int .i64 0)
        have FD := FZ.1.call (grown_drew _)
        have OD := (FZ.2 O8.out).kn (grown_drew _)
        have hset : l.set k y = ins y l := by rw [← HKK.out]; exact set_ins HA.out HLK.out (by rw [HY.out])
        rw [hset] at OD
        exact ⟨_, results3 rfl rfl rfl rfl (tyT _ _ _ _) (tyI _) (tyE _) FD.b1 FD.b2 FD.b3, by rw [HE.out]; exact ⟨_, rfl, Own.rd OD, FD.g⟩⟩
  · have dx : decide (x.till ≤ now) = false := decide_eq_false hxt
    have HXT := hid (show now < x.till by omega)
    clear hxt
    have hr : r = (.zero, 0, 11) := HRR.out.trans (acq_state HOK.out HTM.out HLK.out HXT.out)
    have HE := hid hr
    clear hr
    go_wp2_with (first
      | (refine wpList_storeTYg rfl 24 (.tmp 10) (.tmp 48) rfl rfl rfl (tyT 0 none 0 0) F3.out.b1 rfl ?_; intro w5 g5 h5; have E1 := hid (F3.out.s1 g5 h5); clear g5 h5)
      | (refine wpList_storeTYg rfl 3 (.tmp 11) (.const (.int .i64 0)) rfl rfl rfl (tyI 0) E1.out.b2 rfl ?_; intro w6 g6 h6; have E2 := hid (E1.out.s2 g6 h6); clear g6 h6)
      | (refine wpList_storeTYg rfl 26 (.tmp 12) (.const (.int .i64 11)) rfl rfl rfl (tyE 11) E2.out.b3 rfl ?_; intro w7 g7 h7; have E3 := hid (E2.out.s3 g7 h7); clear g7 h7)
      | fail)
    refine leaves_cons (f := 24) (args := #[.pointer (some ⟨w.heap.size + 1, 0, none⟩), .pointer (some ⟨w.heap.size + 1 + 1, 0, none⟩), .pointer (some ⟨w.heap.size + 1 + 1 + 1, 0, none⟩)]) (by simp) (by simp [go_sem]) ?_
    refine (recAcq_walk _ _ _ _).mono ?_
    rintro e u' w'' ⟨rfl, rfl, rfl⟩
    exact ⟨_, results3 rfl rfl rfl rfl (tyT _ _ _ _) (tyI _) (tyE _) E3.out.b1 E3.out.b2 E3.out.b3, by rw [HE.out]; exact ⟨.slice none 0 0, rfl, Sl.nil _ _, E3.out.g⟩⟩

end Go.Proofs.Ytafippjpaakonaa
