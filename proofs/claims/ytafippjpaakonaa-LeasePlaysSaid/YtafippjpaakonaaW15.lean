/- Leases: Expire. -/
import Derived.Test.YtafippjpaakonaaW12
namespace Go.Proofs.Ytafippjpaakonaa
open Go.RowKit
set_option linter.unusedSimpArgs false
set_option linter.unusedVariables false
/-- a table is returned -/
def TbPost (r : Tb) (w : World) (e : Ending) (w' : World) : Prop := ∃ s', e = .returned (tval r.next s') ∧ Rd w' s' r.ls ∧ w.grownBy w' none
theorem expd_inv {t : Tb} {now : Int} (h1 : t.ok = false) : expd t now = .zero := by unfold expd; rw [h1]; rfl
theorem expd_ok {t : Tb} {now : Int} (h1 : t.ok = true) : expd t now = ⟨t.next, t.ls.filter (keeps now)⟩ := by unfold expd; rw [h1]; rfl
theorem EF.finE {w wr : World} {next : Int} {sv a0 e0 e1 : Value} (h : EF 3 24 w wr next sv [a0] [e0, e1]) (x y : Value) :
    EF 3 24 w ((wr.setCell ⟨w.heap.size + 1 + 1, 0, none⟩ x).setCell ⟨w.heap.size + 1 + 1, 1, none⟩ y) next sv [a0] [x, y] ∧
    ∀ {v : Value} {n : Nat} {xs : List Value}, Own wr 38 4 v n xs → Own ((wr.setCell ⟨w.heap.size + 1 + 1, 0, none⟩ x).setCell ⟨w.heap.size + 1 + 1, 1, none⟩ y) 38 4 v n xs := by
  have f1 := h.s2 (E' := [x, e1]) (grown_setCell wr ⟨w.heap.size + 1 + 1, 0, none⟩ x) (by simpa using heap_setCell_same wr (w.heap.size + 1 + 1) 0 _ 24 x h.b2)
  have f2 := f1.s2 (E' := [x, y]) (grown_setCell _ ⟨w.heap.size + 1 + 1, 1, none⟩ y) (by simpa using heap_setCell_same _ (w.heap.size + 1 + 1) 1 _ 24 y f1.b2)
  refine ⟨f2, fun ho => ?_⟩
  have o1 := Own.past ho (grown_setCell wr ⟨w.heap.size + 1 + 1, 0, none⟩ x) h.b2 (by decide)
  exact Own.past o1 (grown_setCell _ ⟨w.heap.size + 1 + 1, 1, none⟩ y) f1.b2 (by decide)
set_option maxRecDepth 100000 in
set_option maxHeartbeats 2000000 in
theorem expire_walk (t : Tb) (now : Int) (s : Value) (w : World) (hR : Rd w s t.ls) (hn : t.ls.length ≤ 1000000) :
    Calls Try.prog 12 #[tval t.next s, .int .i64 now] w (TbPost (expd t now) w) := by
  obtain ⟨next, l⟩ := t
  simp only at hR hn ⊢
  obtain ⟨ao, cap, rfl, hc1, hc2⟩ := Sl.shape hR
  have HR := hid hR
  obtain ⟨r, hr⟩ : ∃ r, r = expd ⟨next, l⟩ now := ⟨_, rfl⟩
  rw [← hr]
  have HRR := hid hr
  clear hR hr
  unfold tval
  obtain ⟨W, hW⟩ : ∃ W, W = (((w.alloc (.cells #[.int .i64 next, .slice ao l.length cap] 24)).alloc (.cells #[.int .i64 now] 3)).alloc (.cells #[.int .i64 0, .slice none 0 0] 24)) := ⟨_, rfl⟩
  have F0 := hid (show EF 3 24 w W next (.slice ao l.length cap) [.int .i64 now] [.int .i64 0, .slice none 0 0] from by rw [hW]; exact EF.start w next _ _ _ _ _)
  have HWW := hid hW
  clear hW
  have hmf : ∀ (fn : Fn) (first cap : Array Value) (w : World), (Instr.makeFunc fn first cap).run Try.prog w = .ok (.func fn first cap) w := fun _ _ _ _ => rfl
  go_enter_defers Try.func12, Try.ntmps12
  go_wp2_with fail
  rw [← HWW.out]
  refine (valid_walk l next _ W (Sl.kn HR.out F0.out.g) (by omega)).mono ?_
  rintro e w1 ⟨rfl, g1⟩
  have F1 := hid (F0.out.call g1)
  clear g1 hmf HWW
  cases hok : Tb.ok ⟨next, l⟩ with
  | false =>
    have HE := hid (show r = .zero from HRR.out.trans (expd_inv hok))
    have a0 : w1.cell? ⟨w.heap.size + 1 + 1, 0, none⟩ = some (.int .i64 0) := by rw [cell_of_row _ _ _ _ _ _ F1.out.b2]; rfl
    have a1 : w1.cell? ⟨w.heap.size + 1 + 1, 1, none⟩ = some (.slice none 0 0) := by rw [cell_of_row _ _ _ _ _ _ F1.out.b2]; rfl
    have f0 : w1.frozen? ⟨w.heap.size + 1 + 1, 0, none⟩ = false := frozen_of_row _ _ _ _ _ F1.out.b2
    have f1 : w1.frozen? ⟨w.heap.size + 1 + 1, 1, none⟩ = false := frozen_of_row _ _ _ _ _ F1.out.b2
    go_wp2
    refine leaves_cons (f := 31) (args := #[.pointer (some ⟨w.heap.size + 1 + 1, 0, none⟩)]) (by simp) (by simp [go_sem]) ?_
    refine (recExpire_walk _ _).mono ?_
    rintro e u' w'' ⟨rfl, rfl, rfl⟩
    have FZ := (EF.finE F1.out (.int .i64 0) (.slice none 0 0)).1
    exact ⟨_, results1 rfl rfl (tyT _ _ _ _) FZ.b2, by rw [HE.out]; exact ⟨.slice none 0 0, rfl, Sl.nil _ _, FZ.g⟩⟩
  | true =>
    have hA := ((Tb.ok_iff _).1 hok).2.1
    simp only at hA
    have HOK := hid hok
    have HA := hid hA
    clear hA hok
    have c0 : w1.cell? ⟨w.heap.size, 0, none⟩ = some (.int .i64 next) := by rw [cell_of_row _ _ _ _ _ _ F1.out.b0]; rfl
    have c1 : w1.cell? ⟨w.heap.size, 1, none⟩ = some (.slice ao l.length cap) := by rw [cell_of_row _ _ _ _ _ _ F1.out.b0]; rfl
    have HE := hid (show r = ⟨next, l.filter (keeps now)⟩ from HRR.out.trans (expd_ok HOK.out))
    go_wp2_with fail
    refine (clone_walk l next _ w1 (Sl.kn HR.out F1.out.g) hn).mono ?_
    rintro e w5 ⟨v, rfl, hown, hf⟩
    obtain ⟨ao2, cap2, rfl, _, _⟩ := (Sl.of_own hown).shape
    have z2 := (Array.getElem?_eq_some_iff.1 F1.out.b2).1
    have hg4 : ∀ q, (Value.slice ao2 l.length cap2).ownBlock = some q → w.heap.size + 1 + 1 < q := fun q hq => by
      rcases hf.2 q hq with h | h
      · simp [Value.ownBlock] at h
      · omega
    have F5 := hid (F1.out.call (Step.none hf))
    have HG4 := hid hg4
    have O5 := hid hown
    clear hown hf hg4 c0 c1 z2
    go_wp2_with (first
      | (refine wpList_storeTYg rfl 24 (.tmp 4) (.tmp 11) rfl rfl rfl (tyT _ _ _ _) F5.out.b2 rfl ?_; intro w6 g6 h6; have F6 := hid (F5.out.s2 (E' := [.int .i64 next, .slice ao2 l.length cap2]) g6 h6); have O6 := hid (Own.past O5.out g6 F5.out.b2 (by decide)); have q1 : w6.cell? ⟨w.heap.size + 1 + 1, 1, none⟩ = some (.slice ao2 l.length cap2) := (by rw [cell_of_row _ _ _ _ _ _ h6]; rfl); clear g6 h6)
      | fail)
    have hC : w6.cell? ⟨w.heap.size + 1, 0, none⟩ = some (.int .i64 now) := by rw [cell_of_row _ _ _ _ _ _ F6.out.b1]; rfl
    refine (deleteFunc_walk l now (w.heap.size + 1) _ w6 O6.out hC (fun e => by have := HG4.out _ e; omega) hn).mono ?_
    rintro e w7 ⟨v7, rfl, hown7, hst7⟩
    generalize hm : (l.filter (keeps now)).length = m at hown7
    obtain ⟨ao7, cap7, rfl, _, _⟩ := (Sl.of_own hown7).shape
    have F7 := hid (F6.out.step hst7.1 HG4.out)
    have O7 := hid hown7
    have g8 := grown_setCell w7 ⟨w.heap.size + 1 + 1, 1, none⟩ (.slice ao7 m cap7)
    have F8 := hid (F7.out.s2 (E' := [.int .i64 next, .slice ao7 m cap7]) g8 (by simpa using heap_setCell_same w7 (w.heap.size + 1 + 1) 1 _ 24 _ F7.out.b2))
    have O8 := hid (Own.past O7.out g8 F7.out.b2 (by decide))
    clear q1 hC hown7 hst7 g8 hm
    have a0 : w7.cell? ⟨w.heap.size + 1 + 1, 0, none⟩ = some (.int .i64 next) := by rw [cell_of_row _ _ _ _ _ _ F7.out.b2]; rfl
    have a1 : w7.cell? ⟨w.heap.size + 1 + 1, 1, none⟩ = some (.slice ao2 l.length cap2) := by rw [cell_of_row _ _ _ _ _ _ F7.out.b2]; rfl
    have f0 : w7.frozen? ⟨w.heap.size + 1 + 1, 0, none⟩ = false := frozen_of_row _ _ _ _ _ F7.out.b2
    have f1 : w7.frozen? ⟨w.heap.size + 1 + 1, 1, none⟩ = false := frozen_of_row _ _ _ _ _ F7.out.b2
    go_wp2_with fail
    refine leaves_cons (f := 31) (args := #[.pointer (some ⟨w.heap.size + 1 + 1, 0, none⟩)]) (by simp) (by simp [go_sem]) ?_
    refine (recExpire_walk _ _).mono ?_
    rintro e u' w'' ⟨rfl, rfl, rfl⟩
    have FZ := EF.finE F8.out (.int .i64 next) (.slice ao7 m cap7)
    exact ⟨_, results1 rfl rfl (tyT _ _ _ _) FZ.1.b2, by rw [HE.out]; exact ⟨_, rfl, Own.rd (FZ.2 O8.out), FZ.1.g⟩⟩
end Go.Proofs.Ytafippjpaakonaa
