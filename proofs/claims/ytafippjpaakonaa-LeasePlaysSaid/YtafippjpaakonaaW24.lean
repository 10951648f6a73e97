/- Leases: the reference's Find. (printed by gen_w22.py) -/
import Derived.Test.YtafippjpaakonaaW20
import Derived.Test.YtafippjpaakonaaW17
import Derived.Test.YtafippjpaakonaaW14
namespace Go.Proofs.Ytafippjpaakonaa
open Go.RowKit
set_option linter.unusedSimpArgs false
set_option linter.unusedVariables false
theorem fin_fnd {w wr : World} {next : Int} {sv : Value} {fn : Func} {a : Act} {r : Ls × Bool} {a0 a1 a2 a3 : Value} (h : RF 38 w wr next sv [a0, a1, a2, a3])
    (hf : fn.results = #[.cell 6 38, .tmp 7]) (ha : a.tmps.getD 6 undef = ptr (w.heap.size + 1)) (h1 : a.tmps.getD 7 undef = .bool r.2) (hd : a.defers = []) :
    bodyPost Try.prog fn (FndPost r w) .ret a ((((wr.setCell ⟨w.heap.size + 1, 0, none⟩ (.int .i64 r.1.name)).setCell ⟨w.heap.size + 1, 1, none⟩ (.int .i64 r.1.holder)).setCell ⟨w.heap.size + 1, 2, none⟩ (.int .i64 r.1.token)).setCell ⟨w.heap.size + 1, 3, none⟩ (.int .i64 r.1.till)) := by
  have f0 := h.s1 (A' := [.int .i64 r.1.name, a1, a2, a3]) (grown_setCell wr ⟨w.heap.size + 1, 0, none⟩ (.int .i64 r.1.name)) (by simpa using heap_setCell_same wr (w.heap.size + 1) 0 _ 38 (.int .i64 r.1.name) h.b1)
  have f1 := f0.s1 (A' := [.int .i64 r.1.name, .int .i64 r.1.holder, a2, a3]) (grown_setCell _ ⟨w.heap.size + 1, 1, none⟩ (.int .i64 r.1.holder)) (by simpa using heap_setCell_same _ (w.heap.size + 1) 1 _ 38 (.int .i64 r.1.holder) f0.b1)
  have f2 := f1.s1 (A' := [.int .i64 r.1.name, .int .i64 r.1.holder, .int .i64 r.1.token, a3]) (grown_setCell _ ⟨w.heap.size + 1, 2, none⟩ (.int .i64 r.1.token)) (by simpa using heap_setCell_same _ (w.heap.size + 1) 2 _ 38 (.int .i64 r.1.token) f1.b1)
  have f3 := f2.s1 (A' := lcells r.1) (grown_setCell _ ⟨w.heap.size + 1, 3, none⟩ (.int .i64 r.1.till)) (by simpa [lcells] using heap_setCell_same _ (w.heap.size + 1) 3 _ 38 (.int .i64 r.1.till) f2.b1)
  exact bodyPost_ret (resC1 hf ha h1 (tyL r.1) f3.b1) hd ⟨rfl, f3.g⟩
set_option maxRecDepth 100000 in
set_option maxHeartbeats 4000000 in
theorem rfind_walk (t : Tb) (n now : Int) (s : Value) (w : World) (hR : Rd w s t.ls) (hn : t.ls.length ≤ 1000000) :
    Calls Try.prog 22 #[tval t.next s, .int .i64 n, .int .i64 now] w (FndPost (fnd t n now) w) := by
  obtain ⟨next, l⟩ := t
  simp only at hR hn ⊢
  obtain ⟨ao, cap, rfl, hc1, hc2⟩ := Sl.shape hR
  have HR := hid hR
  obtain ⟨r, hr⟩ : ∃ r, r = fnd ⟨next, l⟩ n now := ⟨_, rfl⟩
  rw [← hr]
  have HRR := hid hr
  clear hR hr
  unfold tval
  obtain ⟨W, hW⟩ : ∃ W, W = ((w.alloc (.cells #[.int .i64 next, .slice ao l.length cap] 24)).alloc (.cells [.int .i64 0, .int .i64 0, .int .i64 0, .int .i64 0].toArray 38)) := ⟨_, rfl⟩
  have F0 := hid (show RF 38 w W next (.slice ao l.length cap) [.int .i64 0, .int .i64 0, .int .i64 0, .int .i64 0] from by rw [hW]; exact RF.start w next _ _ _)
  have HWW := hid hW
  clear hW
  go_enter Try.func22, Try.ntmps22
  go_wp2_with fail
  rw [← HWW.out]
  refine (rat_walk l next n _ W (Sl.kn HR.out F0.out.g) (by omega)).mono ?_
  rintro e w1 ⟨i, rfl, hi, g1⟩
  have F1 := hid (F0.out.call g1)
  have HI := hid hi
  clear g1 hi HWW
  have c0 : w1.cell? ⟨w.heap.size, 0, none⟩ = some (.int .i64 next) := by rw [cell_of_row _ _ _ _ _ _ F1.out.b0]; rfl
  have c1 : w1.cell? ⟨w.heap.size, 1, none⟩ = some (.slice ao l.length cap) := by rw [cell_of_row _ _ _ _ _ _ F1.out.b0]; rfl
  go_wp2_with fail
  refine (rvalid_walk l next _ w1 (Sl.kn HR.out F1.out.g) (by omega)).mono ?_
  rintro e w3 ⟨rfl, g3⟩
  have F3 := hid (F1.out.call g3)
  have R3 := hid (Sl.kn HR.out F3.out.g)
  clear g3 c0 c1
  have c0 : w3.cell? ⟨w.heap.size, 0, none⟩ = some (.int .i64 next) := by rw [cell_of_row _ _ _ _ _ _ F3.out.b0]; rfl
  have c1 : w3.cell? ⟨w.heap.size, 1, none⟩ = some (.slice ao l.length cap) := by rw [cell_of_row _ _ _ _ _ _ F3.out.b0]; rfl
  have a0 : w3.cell? ⟨w.heap.size + 1, 0, none⟩ = some (.int .i64 0) := by rw [cell_of_row _ _ _ _ _ _ F3.out.b1]; rfl
  have a1 : w3.cell? ⟨w.heap.size + 1, 1, none⟩ = some (.int .i64 0) := by rw [cell_of_row _ _ _ _ _ _ F3.out.b1]; rfl
  have a2 : w3.cell? ⟨w.heap.size + 1, 2, none⟩ = some (.int .i64 0) := by rw [cell_of_row _ _ _ _ _ _ F3.out.b1]; rfl
  have a3 : w3.cell? ⟨w.heap.size + 1, 3, none⟩ = some (.int .i64 0) := by rw [cell_of_row _ _ _ _ _ _ F3.out.b1]; rfl
  have f0 : w3.frozen? ⟨w.heap.size + 1, 0, none⟩ = false := frozen_of_row _ _ _ _ _ F3.out.b1
  have f1 : w3.frozen? ⟨w.heap.size + 1, 1, none⟩ = false := frozen_of_row _ _ _ _ _ F3.out.b1
  have f2 : w3.frozen? ⟨w.heap.size + 1, 2, none⟩ = false := frozen_of_row _ _ _ _ _ F3.out.b1
  have f3 : w3.frozen? ⟨w.heap.size + 1, 3, none⟩ = false := frozen_of_row _ _ _ _ _ F3.out.b1
  cases hok : Tb.ok ⟨next, l⟩ with
  | false =>
    have HE := hid (show r = (.zero, false) from HRR.out.trans (fnd_inv hok))
    go_wp2
    rw [HE.out]
    exact fin_fnd (r := (.zero, false)) F3.out rfl rfl rfl rfl
  | true =>
    have HOK := hid hok
    have hA := ((Tb.ok_iff _).1 hok).2.1
    have hb := ((Tb.ok_iff _).1 hok).1
    simp only at hA hb
    have HA := hid hA
    obtain ⟨hb1, hb2, hb3⟩ := hb
    unfold Top at hb2
    clear hA hok
    rcases HI.out with ⟨hlk, rfl⟩ | ⟨k, hlk, rfl, hk⟩
    · have HE := hid (show r = (.zero, false) from HRR.out.trans (fnd_none HOK.out hlk))
      clear hlk
      go_wp2
      rw [HE.out]
      exact fin_fnd (r := (.zero, false)) F3.out rfl rfl rfl rfl
    · have HLK := hid hlk
      obtain ⟨b, off, rfl⟩ := Rd.base R3.out (by omega)
      obtain ⟨d0, d1, d2, d3⟩ := Rd.four R3.out k hk
      generalize l.getD k Ls.zero = x at *
      have i1 : (0 : Int) ≤ (k : Int) := by omega
      have i2 : (k : Int) < (l.length : Int) := by omega
      clear hlk
      by_cases q1 : x.till ≤ now
      · have HE := hid (show r = (.zero, false) from HRR.out.trans (fnd_exp HOK.out HLK.out (by omega)))
        go_wp2
        rw [HE.out]
        exact fin_fnd (r := (.zero, false)) F3.out rfl rfl rfl rfl
      have HE := hid (show r = (x, true) from HRR.out.trans (fnd_ok HOK.out HLK.out (by omega)))
      go_wp2
      rw [HE.out]
      exact fin_fnd (r := (x, true)) F3.out rfl rfl rfl rfl
end Go.Proofs.Ytafippjpaakonaa
