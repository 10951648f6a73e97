/- Leases: Acquire. -/
import Derived.Test.YtafippjpaakonaaW10
namespace Go.Proofs.Ytafippjpaakonaa
open Go.RowKit
set_option linter.unusedSimpArgs false
set_option linter.unusedVariables false
set_option maxRecDepth 100000 in
set_option maxHeartbeats 2000000 in
theorem acquire_none (t : Tb) (n h now d : Int) (s : Value) (w : World) (hR : Rd w s t.ls) (hn : t.ls.length ≤ 1000000) (h1 : t.ok = true) (h2 : timely now d = true) (h3 : look n t.ls = none) :
    Calls Try.prog 11 #[tval t.next s, .int .i64 n, .int .i64 h, .int .i64 now, .int .i64 d] w (AcqPost (acq cds t n h now d) w) := by
  obtain ⟨next, l⟩ := t
  simp only at hR hn h3 ⊢
  have hvt : vT now = true ∧ vD d = true := by rw [timely_eq, Bool.and_eq_true] at h2; exact h2
  have HVT := hid hvt
  have HTM := hid h2
  have hA := ((Tb.ok_iff _).1 h1).2.1
  have hB := ((Tb.ok_iff _).1 h1).1
  simp only at hA hB
  have HOK := hid h1
  have HA := hid hA
  have HBB := hid hB
  have HLK := hid h3
  clear hvt hA hB h1 h2 h3
  obtain ⟨ao, cap, rfl, hc1, hc2⟩ := Sl.shape hR
  have HR := hid hR
  obtain ⟨r, hr⟩ : ∃ r, r = acq cds ⟨next, l⟩ n h now d := ⟨_, rfl⟩
  rw [← hr]
  have HRR := hid hr
  clear hR hr
  unfold tval
  obtain ⟨W, hW⟩ : ∃ W, W = (((w.alloc (.cells #[.int .i64 next, .slice ao l.length cap] 24)).alloc (.cells #[.int .i64 0, .slice none 0 0] 24)).alloc (.cells #[.int .i64 0] 3)).alloc (.cells #[.int .i64 0] 26) := ⟨_, rfl⟩
  have F0 := hid (show AF w W next (.slice ao l.length cap) [.int .i64 0, .slice none 0 0] (.int .i64 0) (.int .i64 0) from by
    rw [hW]
    exact ⟨grown_trans (grown_trans (grown_trans (World.grownBy_alloc _ _ _) (World.grownBy_alloc _ _ _)) (World.grownBy_alloc _ _ _)) (World.grownBy_alloc _ _ _),
      by rw [heap_past (by simp <;> omega), heap_past (by simp <;> omega), heap_past (by simp <;> omega), heap_at rfl],
      by rw [heap_past (by simp <;> omega), heap_past (by simp <;> omega), heap_at (by simp <;> omega)],
      by rw [heap_past (by simp <;> omega), heap_at (by simp <;> omega)],
      by rw [heap_at (by simp <;> omega)]⟩)
  have HWW := hid hW
  clear hW
  have hmf : ∀ (fn : Fn) (first cap : Array Value) (w : World), (Instr.makeFunc fn first cap).run Try.prog w = .ok (.func fn first cap) w := fun _ _ _ _ => rfl
  go_enter_defers Try.func11, Try.ntmps11
  go_wp2_with fail
  rw [← HWW.out]
  refine (valid_walk l next _ W (Sl.kn HR.out F0.out.g) (by omega)).mono ?_
  rintro e w1 ⟨rfl, g1⟩
  have F1 := hid (F0.out.call g1)
  clear g1 hmf HWW
  rw [HOK.out]
  go_wp2_with fail
  refine (validTime_walk now _).mono ?_
  rintro e w' ⟨rfl, rfl⟩
  rw [HVT.out.1]
  go_wp2_with fail
  refine (validDuration_walk d _).mono ?_
  rintro e w' ⟨rfl, rfl⟩
  rw [HVT.out.2]
  have c0 : w'.cell? ⟨w.heap.size, 0, none⟩ = some (.int .i64 next) := by rw [cell_of_row _ _ _ _ _ _ F1.out.b0]; rfl
  have c1 : w'.cell? ⟨w.heap.size, 1, none⟩ = some (.slice ao l.length cap) := by rw [cell_of_row _ _ _ _ _ _ F1.out.b0]; rfl
  go_wp2_with fail
  refine (search_walk l next n _ _ (Sl.kn HR.out F1.out.g) HA.out hn).mono ?_
  rintro e w2 ⟨rfl, g2⟩
  have F2 := hid (F1.out.call g2)
  clear g2 c0 c1
  have c0 : w2.cell? ⟨w.heap.size, 0, none⟩ = some (.int .i64 next) := by rw [cell_of_row _ _ _ _ _ _ F2.out.b0]; rfl
  have c1 : w2.cell? ⟨w.heap.size, 1, none⟩ = some (.slice ao l.length cap) := by rw [cell_of_row _ _ _ _ _ _ F2.out.b0]; rfl
  rw [HLK.out]
  simp only [Option.isSome_none]
  have hkl : (lo n l).length ≤ l.length := by have := HA.out.len n; omega
  generalize hkk : (lo n l).length = k at *
  have HKK := hid hkk
  clear hkk
  have i1 : (0 : Int) ≤ (k : Int) := by omega
  have i2 : (k : Int) ≤ (l.length : Int) := by omega
  have F3 := F2
  by_cases h64 : 64 ≤ l.length
  · have d6 : decide (64 ≤ l.length) = true := decide_eq_true h64
    have d6' : decide ((64 : Int) ≤ (l.length : Int)) = true := decide_eq_true (by omega)
    have hr : r = (.zero, 0, 8) := HRR.out.trans (acq_full2 HOK.out HTM.out HLK.out (.inl h64))
    have HE := hid hr
    clear hr
    have a0 : w2.cell? ⟨w.heap.size + 1, 0, none⟩ = some (.int .i64 0) := by rw [cell_of_row _ _ _ _ _ _ F3.out.b1]; rfl
    have a1 : w2.cell? ⟨w.heap.size + 1, 1, none⟩ = some (.slice none 0 0) := by rw [cell_of_row _ _ _ _ _ _ F3.out.b1]; rfl
    have a2 : w2.cell? ⟨w.heap.size + 1 + 1, 0, none⟩ = some (.int .i64 0) := by rw [cell_of_row _ _ _ _ _ _ F3.out.b2]; rfl
    have a3 : w2.cell? ⟨w.heap.size + 1 + 1 + 1, 0, none⟩ = some (.int .i64 0) := by rw [cell_of_row _ _ _ _ _ _ F3.out.b3]; rfl
    have f0 : w2.frozen? ⟨w.heap.size + 1, 0, none⟩ = false := frozen_of_row _ _ _ _ _ F3.out.b1
    have f1 : w2.frozen? ⟨w.heap.size + 1, 1, none⟩ = false := frozen_of_row _ _ _ _ _ F3.out.b1
    have f2 : w2.frozen? ⟨w.heap.size + 1 + 1, 0, none⟩ = false := frozen_of_row _ _ _ _ _ F3.out.b2
    have f3 : w2.frozen? ⟨w.heap.size + 1 + 1 + 1, 0, none⟩ = false := frozen_of_row _ _ _ _ _ F3.out.b3
    go_wp2
    refine leaves_cons (f := 24) (args := #[.pointer (some ⟨w.heap.size + 1, 0, none⟩), .pointer (some ⟨w.heap.size + 1 + 1, 0, none⟩), .pointer (some ⟨w.heap.size + 1 + 1 + 1, 0, none⟩)]) (by simp) (by simp [go_sem]) ?_
    refine (recAcq_walk _ _ _ _).mono ?_
    rintro e u' w'' ⟨rfl, rfl, rfl⟩
    have FZ := (AF.fin F3.out (.int .i64 0) (.slice none 0 0) (.int .i64 0) (.int .i64 8)).1
    exact ⟨_, results3 rfl rfl rfl rfl (tyT _ _ _ _) (tyI _) (tyE _) FZ.b1 FZ.b2 FZ.b3, by rw [HE.out]; exact ⟨.slice none 0 0, rfl, Sl.nil _ _, FZ.g⟩⟩
  have d6 : decide (64 ≤ l.length) = false := decide_eq_false h64
  have d6' : decide ((64 : Int) ≤ (l.length : Int)) = false := decide_eq_false (by omega)
  have H64 := hid h64
  clear h64
  by_cases hT : next = 1099511627776
  · have dT : (next == 1099511627776) = true := by simp [hT]
    have HT := hid hT
    clear hT
    have hr : r = (.zero, 0, 8) := HRR.out.trans (acq_full2 HOK.out HTM.out HLK.out (.inr HT.out))
    have HE := hid hr
    clear hr
    have a0 : w2.cell? ⟨w.heap.size + 1, 0, none⟩ = some (.int .i64 0) := by rw [cell_of_row _ _ _ _ _ _ F3.out.b1]; rfl
    have a1 : w2.cell? ⟨w.heap.size + 1, 1, none⟩ = some (.slice none 0 0) := by rw [cell_of_row _ _ _ _ _ _ F3.out.b1]; rfl
    have a2 : w2.cell? ⟨w.heap.size + 1 + 1, 0, none⟩ = some (.int .i64 0) := by rw [cell_of_row _ _ _ _ _ _ F3.out.b2]; rfl
    have a3 : w2.cell? ⟨w.heap.size + 1 + 1 + 1, 0, none⟩ = some (.int .i64 0) := by rw [cell_of_row _ _ _ _ _ _ F3.out.b3]; rfl
    have f0 : w2.frozen? ⟨w.heap.size + 1, 0, none⟩ = false := frozen_of_row _ _ _ _ _ F3.out.b1
    have f1 : w2.frozen? ⟨w.heap.size + 1, 1, none⟩ = false := frozen_of_row _ _ _ _ _ F3.out.b1
    have f2 : w2.frozen? ⟨w.heap.size + 1 + 1, 0, none⟩ = false := frozen_of_row _ _ _ _ _ F3.out.b2
    have f3 : w2.frozen? ⟨w.heap.size + 1 + 1 + 1, 0, none⟩ = false := frozen_of_row _ _ _ _ _ F3.out.b3
    go_wp2
    refine leaves_cons (f := 24) (args := #[.pointer (some ⟨w.heap.size + 1, 0, none⟩), .pointer (some ⟨w.heap.size + 1 + 1, 0, none⟩), .pointer (some ⟨w.heap.size + 1 + 1 + 1, 0, none⟩)]) (by simp) (by simp [go_sem]) ?_
    refine (recAcq_walk _ _ _ _).mono ?_
    rintro e u' w'' ⟨rfl, rfl, rfl⟩
    have FZ := (AF.fin F3.out (.int .i64 0) (.slice none 0 0) (.int .i64 0) (.int .i64 8)).1
    exact ⟨_, results3 rfl rfl rfl rfl (tyT _ _ _ _) (tyI _) (tyE _) FZ.b1 FZ.b2 FZ.b3, by rw [HE.out]; exact ⟨.slice none 0 0, rfl, Sl.nil _ _, FZ.g⟩⟩
  · have dT : (next == 1099511627776) = false := by simp [hT]
    have HT := hid (show ¬ next = Top from hT)
    clear hT
    have hbt : -1099511627776 ≤ now ∧ now ≤ 1099511627776 ∧ 1 ≤ d ∧ d ≤ 1099511627776 := by have := HTM.out; unfold timely Top at this; simp at this; omega
    obtain ⟨b1, b2, b3, b4⟩ := hbt
    have hn1 : 1 ≤ next ∧ next ≤ 1099511627776 := ⟨HBB.out.1, HBB.out.2.1⟩
    obtain ⟨n1, n2⟩ := hn1
    obtain ⟨y, hy⟩ : ∃ y : Ls, y = ⟨n, h, next, now + d⟩ := ⟨_, rfl⟩
    have hr : r = (⟨next + 1, ins y l⟩, next, 0) := by rw [hy]; exact HRR.out.trans (acq_ok2 HOK.out HTM.out HLK.out (fun h => h.elim H64.out HT.out))
    have HE := hid hr
    have HY := hid hy
    clear hr hy
    have ga := World.grownBy_alloc w2 (.cells #[.int .i64 n, .int .i64 h, .int .i64 next, .int .i64 (now + d)] 38) none
    have hb15 := heap_at (w := w2) (o := .cells #[.int .i64 n, .int .i64 h, .int .i64 next, .int .i64 (now + d)] 38) rfl
    have e0 : (w2.alloc (.cells #[.int .i64 n, .int .i64 h, .int .i64 next, .int .i64 (now + d)] 38)).cell? ⟨w.heap.size, 0, none⟩ = some (.int .i64 next) := ga.cell c0 (by simp)
    have e1 : (w2.alloc (.cells #[.int .i64 n, .int .i64 h, .int .i64 next, .int .i64 (now + d)] 38)).cell? ⟨w.heap.size, 1, none⟩ = some (.slice ao l.length cap) := ga.cell c1 (by simp)
    go_wp2_with fail
    generalize w2.alloc (.cells #[.int .i64 n, .int .i64 h, .int .i64 next, .int .i64 (now + d)] 38) = W4 at *
    have F4 := hid (F3.out.call ga)
    have Z3 := hid (show w.heap.size + 1 + 1 + 1 < w2.heap.size from (Array.getElem?_eq_some_iff.1 F3.out.b3).1)
    refine (clone_walk l next _ W4 (Sl.kn HR.out F4.out.g) hn).mono ?_
    rintro e w5 ⟨v, rfl, hown, hf⟩
    obtain ⟨ao2, cap2, rfl, _, _⟩ := (Sl.of_own hown).shape
    have hg4 : ∀ q, (Value.slice ao2 l.length cap2).ownBlock = some q → w2.heap.size < q := fun q hq => by
      have h5 := (Array.getElem?_eq_some_iff.1 hb15).1
      rcases hf.2 q hq with h | h
      · simp [Value.ownBlock] at h
      · omega
    have F5 := hid (F4.out.call (Step.none hf))
    have B15 := hid (show w5.heap[w2.heap.size]? = some (.cells (lcells y).toArray 38 (0, 0)) by rw [HY.out]; exact row_of (Step.none hf) hb15 (by simp))
    have HG4 := hid hg4
    have O5 := hid hown
    clear hown hf hg4 hb15 ga c0 c1 e0 e1 dT d6 d6'
    go_wp2_with (first
      | (refine wpList_storeTYg rfl 24 (.tmp 10) (.tmp 72) rfl rfl rfl (tyT _ _ _ _) F5.out.b1 rfl ?_; intro w6 g6 h6; have F6 := hid (F5.out.s1 g6 h6); have O6 := hid (Own.past O5.out g6 F5.out.b1 (by decide)); have B6 := hid (row_of g6 B15.out (by have := Z3.out; simp <;> omega)); have q1 : w6.cell? ⟨w.heap.size + 1, 1, none⟩ = some (.slice ao2 l.length cap2) := (by rw [cell_of_row _ _ _ _ _ _ h6]; rfl); clear g6 h6)
      | (refine wpList_loadTY rfl 38 (.tmp 15) rfl rfl (show TY Try.prog 38 (lcells y) (.agg #[.int .i64 y.name, .int .i64 y.holder, .int .i64 y.token, .int .i64 y.till]) from tyL y) B6.out ?_)
      | fail)
    have gV := World.grownBy_alloc w6 (.cells #[.int .i64 y.name, .int .i64 y.holder, .int .i64 y.token, .int .i64 y.till] 38) none
    have hV := heap_at (w := w6) (o := .cells #[.int .i64 y.name, .int .i64 y.holder, .int .i64 y.token, .int .i64 y.till] 38) rfl
    generalize w6.alloc (.cells #[.int .i64 y.name, .int .i64 y.holder, .int .i64 y.token, .int .i64 y.till] 38) = W9 at *
    have F9 := hid (F6.out.call gV)
    have O9 := hid (O6.out.kn gV)
    have B9 := hid (row_of gV B6.out (by simp))
    refine (insert_walk l y k w6.heap.size _ W9 O9.out hV (fun e => by have := Own.lt O6.out _ e; omega) hkl hn).mono ?_
    rintro e w10 ⟨v', rfl, hown10, hst10⟩
    obtain ⟨ao3, cap3, rfl, _, _⟩ := (Sl.of_own hown10).shape
    have F10 := hid (F9.out.step hst10.1 (fun q hq => by have := HG4.out q hq; have := Z3.out; omega))
    have B10 := hid (row_of hst10.1 B9.out (fun e => by have := HG4.out _ e.symm; omega))
    have O10 := hid hown10
    clear gV hV q1 hown10 hst10
    go_wp2_with (first
      | (refine wpList_storeAt rfl 22 (.tmp 85) (.tmp 84) rfl rfl rfl (tyS _ _ _) F10.out.b1 (by simp) ?_; intro w7 g7 h7; have F7 := hid (F10.out.s1 (A' := [.int .i64 next, .slice ao3 (l.length + 1) cap3]) g7 h7); have O7 := hid (Own.past O10.out g7 F10.out.b1 (by decide)); have B7 := hid (row_of g7 B10.out (by have := Z3.out; simp <;> omega)); have p0 : w7.cell? ⟨w.heap.size + 1, 0, none⟩ = some (.int .i64 next) := (by rw [cell_of_row _ _ _ _ _ _ F7.out.b1]; rfl); clear g7 h7)
      | (refine wpList_storeAt rfl 3 (.tmp 89) (.tmp 88) rfl rfl rfl (tyI (next + 1)) F7.out.b1 (by simp) ?_; intro w8 g8 h8; have F8 := hid (F7.out.s1 (A' := [.int .i64 (next + 1), .slice ao3 (l.length + 1) cap3]) g8 h8); have O8 := hid (Own.past O7.out g8 F7.out.b1 (by decide)); have B8 := hid (row_of g8 B7.out (by have := Z3.out; simp <;> omega)); clear g8 h8 p0)
      | fail)
    have z3 := Z3.out
    have a0 : w8.cell? ⟨w.heap.size + 1, 0, none⟩ = some (.int .i64 (next + 1)) := by rw [cell_of_row _ _ _ _ _ _ F8.out.b1]; rfl
    have a1 : w8.cell? ⟨w.heap.size + 1, 1, none⟩ = some (.slice ao3 (l.length + 1) cap3) := by rw [cell_of_row _ _ _ _ _ _ F8.out.b1]; rfl
    have a2 : w8.cell? ⟨w.heap.size + 1 + 1, 0, none⟩ = some (.int .i64 0) := by rw [cell_of_row _ _ _ _ _ _ F8.out.b2]; rfl
    have a3 : w8.cell? ⟨w.heap.size + 1 + 1 + 1, 0, none⟩ = some (.int .i64 0) := by rw [cell_of_row _ _ _ _ _ _ F8.out.b3]; rfl
    have a4 : w8.cell? ⟨w2.heap.size, 2, none⟩ = some (.int .i64 next) := by rw [cell_of_row _ _ _ _ _ _ B8.out, HY.out]; rfl
    have f0 : w8.frozen? ⟨w.heap.size + 1, 0, none⟩ = false := frozen_of_row _ _ _ _ _ F8.out.b1
    have f1 : w8.frozen? ⟨w.heap.size + 1, 1, none⟩ = false := frozen_of_row _ _ _ _ _ F8.out.b1
    have f2 : w8.frozen? ⟨w.heap.size + 1 + 1, 0, none⟩ = false := frozen_of_row _ _ _ _ _ F8.out.b2
    have f3 : w8.frozen? ⟨w.heap.size + 1 + 1 + 1, 0, none⟩ = false := frozen_of_row _ _ _ _ _ F8.out.b3
    refine wp_region_noPanic ?_
    go_region
    all_goals
      refine NoPanic.normal ?_
      go_wp2
      refine leaves_cons (f := 24) (args := #[.pointer (some ⟨w.heap.size + 1, 0, none⟩), .pointer (some ⟨w.heap.size + 1 + 1, 0, none⟩), .pointer (some ⟨w.heap.size + 1 + 1 + 1, 0, none⟩)]) (by simp) (by simp [go_sem]) ?_
      refine (recAcq_walk _ _ _ _).mono ?_
      rintro e u' w'' ⟨rfl, rfl, rfl⟩
      have FZ := AF.fin F8.out (.int .i64 (next + 1)) (.slice ao3 (l.length + 1) cap3) (.int .i64 next) (.int .i64 0)
      have FD := FZ.1.call (grown_drew _)
      have OD := (FZ.2 O8.out).kn (grown_drew _)
      have hset : l.take k ++ y :: l.drop k = ins y l := by rw [← HKK.out]; exact insert_ins HA.out HLK.out (by rw [HY.out])
      rw [hset] at OD
      exact ⟨_, results3 rfl rfl rfl rfl (tyT _ _ _ _) (tyI _) (tyE _) FD.b1 FD.b2 FD.b3, by rw [HE.out]; exact ⟨_, rfl, Own.rd OD, FD.g⟩⟩

end Go.Proofs.Ytafippjpaakonaa
