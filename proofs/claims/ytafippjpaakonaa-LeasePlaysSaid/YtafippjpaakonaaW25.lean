/- Leases: the reference's Expire. (printed by gen_w22.py) -/
import Derived.Test.YtafippjpaakonaaW20
import Derived.Test.YtafippjpaakonaaW17
import Derived.Test.YtafippjpaakonaaW15
namespace Go.Proofs.Ytafippjpaakonaa
open Go.RowKit
set_option linter.unusedSimpArgs false
set_option linter.unusedVariables false
theorem fin_tb {w wr : World} {next : Int} {sv : Value} {fn : Func} {a : Act} {r : Tb} {ao : Option Addr} {n cap : Nat} {a0 a1 : Value} (h : RF 24 w wr next sv [a0, a1]) (ho : Rd wr (.slice ao n cap) r.ls)
    (hf : fn.results = #[.cell 4 24]) (ha : a.tmps.getD 4 undef = ptr (w.heap.size + 1)) (hd : a.defers = []) :
    bodyPost Try.prog fn (TbPost r w) .ret a ((wr.setCell ⟨w.heap.size + 1, 0, none⟩ (.int .i64 r.next)).setCell ⟨w.heap.size + 1, 1, none⟩ (.slice ao n cap)) := by
  obtain ⟨f, g⟩ := h.fin (.int .i64 r.next) (.slice ao n cap)
  exact ret_cell (b := w.heap.size + 1) hf ha (tyT _ _ _ _) f.b1 hd ⟨_, rfl, rd_kept ho h.b1 (by simp) g, f.g⟩
theorem keeps_yes {now : Int} {x : Ls} (h : now < x.till) : keeps now x = true := decide_eq_true h
theorem keeps_no {now : Int} {x : Ls} (h : ¬ now < x.till) : keeps now x = false := decide_eq_false h
theorem RF.far {T1 : TypeId} {w wr w' : World} {next : Int} {sv : Value} {A : List Value} {k : Nat} (h : RF T1 w wr next sv A) (g : wr.grownBy w' (some k)) (hk : w.heap.size + 1 < k) : RF T1 w w' next sv A :=
  ⟨grown_newR h.g g (by omega), row_of g h.b0 (by simp <;> omega), row_of g h.b1 (by simp <;> omega)⟩
theorem RF.step {T1 : TypeId} {w wr w' : World} {next : Int} {sv : Value} {A : List Value} {q : Option Nat} (h : RF T1 w wr next sv A) (g : wr.grownBy w' q) (hk : ∀ k, q = some k → w.heap.size + 1 < k) : RF T1 w w' next sv A := by
  cases q with
  | none => exact h.call g
  | some k => exact h.far g (hk k rfl)
/-- what Expire holds in its loop -/
structure EX (w wr : World) (next : Int) (sv : Value) (B k m : Nat) (l ys : List Ls) (now : Int) (ao : Option Addr) (cap : Nat) : Prop where
  rf : RF 24 w wr next sv [.int .i64 0, .slice none 0 0]
  b2 : wr.heap[B]? = some (.cells #[.int .i64 next, .slice ao m cap] 24 (0, 0))
  own : Own wr 38 4 (.slice ao m cap) m (ys.flatMap lcells)
  hys : ys = (l.take k).filter (keeps now)
  hlen : m = ys.length
  up : ∀ q, (Value.slice ao m cap).ownBlock = some q → w.heap.size + 1 < q
theorem EX.push {w wr w5 : World} {next : Int} {sv : Value} {B k m : Nat} {l ys : List Ls} {now : Int} {aq ad : Option Addr} {cq cap9 : Nat} {x : Ls} (h : EX w wr next sv B k m l ys now aq cq)
    (hf : (l.take (k + 1)).filter (keeps now) = (l.take k).filter (keeps now) ++ [x]) (ho : Own w5 38 4 (.slice ad (m + 1) cap9) (m + 1) (ys.flatMap lcells ++ lcells x)) (hst : Step wr (.slice aq m cq) w5 (.slice ad (m + 1) cap9)) (hB : w.heap.size + 1 < B) :
    EX w (w5.setCell ⟨B, 1, none⟩ (.slice ad (m + 1) cap9)) next sv B (k + 1) (m + 1) l (ys ++ [x]) now ad cap9 := by
  have b5 := row_of hst.1 h.b2 (fun e => Own.ne h.own h.b2 (by decide) e.symm)
  have r5 := h.rf.step hst.1 h.up
  have hg := grown_setCell w5 ⟨B, 1, none⟩ (.slice ad (m + 1) cap9)
  have hz := (Array.getElem?_eq_some_iff.1 h.rf.b1).1
  exact ⟨r5.far hg hB, by simpa using heap_setCell_same w5 B 1 _ 24 (.slice ad (m + 1) cap9) b5,
    by rw [List.flatMap_append]; simpa using Own.past ho hg b5 (by decide), by rw [hf, h.hys], by rw [List.length_append, h.hlen]; rfl,
    fun q hq => by rcases hst.2 q hq with e | e
                   · exact h.up q e
                   · omega⟩
set_option maxRecDepth 100000 in
set_option maxHeartbeats 4000000 in
theorem rexpire_walk (t : Tb) (now : Int) (s : Value) (w : World) (hR : Rd w s t.ls) (hn : t.ls.length ≤ 1000000) :
    Calls Try.prog 37 #[tval t.next s, .int .i64 now] w (TbPost (expd t now) w) := by
  obtain ⟨next, l⟩ := t
  simp only at hR hn ⊢
  obtain ⟨ao, cap, rfl, hc1, hc2⟩ := Sl.shape hR
  have HR := hid hR
  obtain ⟨r, hr⟩ : ∃ r, r = expd ⟨next, l⟩ now := ⟨_, rfl⟩
  rw [← hr]
  have HRR := hid hr
  clear hR hr
  unfold tval
  obtain ⟨W, hW⟩ : ∃ W, W = ((w.alloc (.cells #[.int .i64 next, .slice ao l.length cap] 24)).alloc (.cells [.int .i64 0, .slice none 0 0].toArray 24)) := ⟨_, rfl⟩
  have F0 := hid (show RF 24 w W next (.slice ao l.length cap) [.int .i64 0, .slice none 0 0] from by rw [hW]; exact RF.start w next _ _ _)
  have HWW := hid hW
  clear hW
  go_enter Try.func37, Try.ntmps37
  go_wp2_with fail
  rw [← HWW.out]
  refine (rvalid_walk l next _ W (Sl.kn HR.out F0.out.g) (by omega)).mono ?_
  rintro e w1 ⟨rfl, g1⟩
  have F1 := hid (F0.out.call g1)
  clear g1 HWW
  have c0 : w1.cell? ⟨w.heap.size, 0, none⟩ = some (.int .i64 next) := by rw [cell_of_row _ _ _ _ _ _ F1.out.b0]; rfl
  have c1 : w1.cell? ⟨w.heap.size, 1, none⟩ = some (.slice ao l.length cap) := by rw [cell_of_row _ _ _ _ _ _ F1.out.b0]; rfl
  have a0 : w1.cell? ⟨w.heap.size + 1, 0, none⟩ = some (.int .i64 0) := by rw [cell_of_row _ _ _ _ _ _ F1.out.b1]; rfl
  have a1 : w1.cell? ⟨w.heap.size + 1, 1, none⟩ = some (.slice none 0 0) := by rw [cell_of_row _ _ _ _ _ _ F1.out.b1]; rfl
  have f0 : w1.frozen? ⟨w.heap.size + 1, 0, none⟩ = false := frozen_of_row _ _ _ _ _ F1.out.b1
  have f1 : w1.frozen? ⟨w.heap.size + 1, 1, none⟩ = false := frozen_of_row _ _ _ _ _ F1.out.b1
  cases hok : Tb.ok ⟨next, l⟩ with
  | false =>
    have HE := hid (show r = .zero from HRR.out.trans (expd_inv hok))
    go_wp2
    rw [HE.out]
    exact fin_tb (r := .zero) (ao := none) (n := 0) (cap := 0) F1.out (Sl.nil _ _) rfl rfl rfl
  | true =>
    have HOK := hid hok
    have hA := ((Tb.ok_iff _).1 hok).2.1
    have hb := ((Tb.ok_iff _).1 hok).1
    simp only at hA hb
    have HA := hid hA
    obtain ⟨hb1, hb2, hb3⟩ := hb
    unfold Top at hb2
    clear hA hok
    have HE := hid (show r = ⟨next, l.filter (keeps now)⟩ from HRR.out.trans (expd_ok HOK.out))
    have z0 := (Array.getElem?_eq_some_iff.1 F1.out.b1).1
    have Z1 := hid z0
    have E0 := hid (show EX w (w1.alloc (.cells #[.int .i64 next, .slice none 0 0] 24)) next (.slice ao l.length cap) w1.heap.size 0 0 l [] now none 0 from ⟨F1.out.call (World.grownBy_alloc _ _ _), heap_at rfl, Own.nil _ _ _, rfl, rfl, fun q hq => by simp [Value.ownBlock] at hq⟩)
    clear a0 a1 f0 f1
    go_wp2
    go_loopw [6] (fun i wr => ∃ (k m : Nat) (ys : List Ls) (aq : Option Addr) (cq : Nat), k ≤ l.length ∧ i = .int .i64 k ∧ EX w wr next (.slice ao l.length cap) w1.heap.size k m l ys now aq cq) (fun i _ => l.length - (intOf i).toNat)
    case atStart => exact ⟨0, 0, [], none, 0, Nat.zero_le _, rfl, E0.out⟩
    case round =>
      obtain ⟨k, m, ys, aq, cq, hk, rfl, hex⟩ := hrel
      have EK := hid hex
      clear hex
      have c0 : wr.cell? ⟨w.heap.size, 0, none⟩ = some (.int .i64 next) := by rw [cell_of_row _ _ _ _ _ _ EK.out.rf.b0]; rfl
      have c1 : wr.cell? ⟨w.heap.size, 1, none⟩ = some (.slice ao l.length cap) := by rw [cell_of_row _ _ _ _ _ _ EK.out.rf.b0]; rfl
      have a0 : wr.cell? ⟨w.heap.size + 1, 0, none⟩ = some (.int .i64 0) := by rw [cell_of_row _ _ _ _ _ _ EK.out.rf.b1]; rfl
      have a1 : wr.cell? ⟨w.heap.size + 1, 1, none⟩ = some (.slice none 0 0) := by rw [cell_of_row _ _ _ _ _ _ EK.out.rf.b1]; rfl
      have f0 : wr.frozen? ⟨w.heap.size + 1, 0, none⟩ = false := frozen_of_row _ _ _ _ _ EK.out.rf.b1
      have f1 : wr.frozen? ⟨w.heap.size + 1, 1, none⟩ = false := frozen_of_row _ _ _ _ _ EK.out.rf.b1
      have e0 : wr.cell? ⟨w1.heap.size, 0, none⟩ = some (.int .i64 next) := by rw [cell_of_row _ _ _ _ _ _ EK.out.b2]; rfl
      have e1 : wr.cell? ⟨w1.heap.size, 1, none⟩ = some (.slice aq m cq) := by rw [cell_of_row _ _ _ _ _ _ EK.out.b2]; rfl
      have g1 : wr.frozen? ⟨w1.heap.size, 1, none⟩ = false := frozen_of_row _ _ _ _ _ EK.out.b2
      by_cases hlt : k < l.length
      · clear a0 a1 f0 f1
        obtain ⟨b, off, rfl⟩ := Rd.base HR.out (by omega)
        have R3 := hid (Sl.kn HR.out EK.out.rf.g)
        obtain ⟨d0, d1, d2, d3⟩ := Rd.four R3.out k hlt
        have i1 : (0 : Int) ≤ (k : Int) := by omega
        have i2 : (k : Int) < (l.length : Int) := by omega
        by_cases hx : now < (l.getD k Ls.zero).till
        · have HF := hid (filt_yes (p := keeps now) hlt (keeps_yes hx))
          have hm1 : m ≤ 1000000 := by rw [EK.out.hlen, EK.out.hys]; exact Nat.le_trans (filt_len _ _ _) hn
          have z0 := block_lt_of_cell c0
          have z1 := block_lt_of_cell e1
          have z2 := block_lt_of_cell d0
          have HT := hid hx
          generalize l.getD k Ls.zero = x at *
          go_wp2
          go_region_law
            (first
              | (refine step_appS leaseT rfl (.tmp 30) (.tmp 36) rfl (.slice aq m cq) m _ rfl (Own.kn EK.out.own (grown_trans (World.grownBy_alloc _ _ _) (grown_drew _))) (.slice (some ⟨wr.heap.size, 0, none⟩) 1 1) 1 (lcells x) rfl (Sl.kn (Sl.new (w := wr) rfl rfl) (grown_drew _)) rfl (by omega) ?_
                 intro v5 w5 hown5 hst5
                 obtain ⟨ad9, cap9, rfl, _, _⟩ := (Sl.of_own hown5).shape
                 have M5 := hid (And.intro hown5 (show Step wr (.slice aq m cq) w5 (.slice ad9 (m + 1) cap9) from Step.alloc (Step.drew hst5)))
                 clear hown5 hst5
                 have B5 := hid (row_of M5.out.2.1 EK.out.b2 (fun e => Own.ne EK.out.own EK.out.b2 (by decide) e.symm))
                 have e0 : w5.cell? ⟨w1.heap.size, 0, none⟩ = some (.int .i64 next) := by rw [cell_of_row _ _ _ _ _ _ B5.out]; rfl
                 have e1 : w5.cell? ⟨w1.heap.size, 1, none⟩ = some (.slice aq m cq) := by rw [cell_of_row _ _ _ _ _ _ B5.out]; rfl
                 have g1 : w5.frozen? ⟨w1.heap.size, 1, none⟩ = false := frozen_of_row _ _ _ _ _ B5.out)
              | fail)
          all_goals go_wp2
          all_goals go_roundw
          all_goals first | exact ⟨k + 1, m + 1, ys ++ [x], ad9, cap9, by omega, by go_num, EK.out.push HF.out M5.out.1 M5.out.2 Z1.out⟩ | (simp [intOf]; omega)
        · have HF := hid (filt_no (p := keeps now) hlt (keeps_no hx))
          generalize l.getD k Ls.zero = x at *
          go_wp2
          go_roundw
          case rel => exact ⟨k + 1, m, ys, aq, cq, by omega, by go_num, EK.out.rf, EK.out.b2, EK.out.own, by rw [HF.out]; exact EK.out.hys, EK.out.hlen, EK.out.up⟩
          case measure => simp [intOf]; omega
      · obtain rfl : k = l.length := by omega
        go_wp2
        rw [HE.out]
        exact fin_tb (r := ⟨next, l.filter (keeps now)⟩) EK.out.rf (show Rd wr _ (l.filter (keeps now)) from by have h := Own.rd EK.out.own; rw [EK.out.hys, List.take_length] at h; exact h) rfl rfl rfl
end Go.Proofs.Ytafippjpaakonaa
