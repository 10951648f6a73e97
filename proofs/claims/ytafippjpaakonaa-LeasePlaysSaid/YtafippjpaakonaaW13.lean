/- Leases: Renew. -/
import Derived.Test.YtafippjpaakonaaW12
namespace Go.Proofs.Ytafippjpaakonaa
open Go.RowKit
set_option linter.unusedSimpArgs false
set_option linter.unusedVariables false
theorem set_flat (l : List Ls) (j : Nat) (hj : j < l.length) (v : Int) : (l.flatMap lcells).set (j * 4 + 3) (.int .i64 v) = (l.set j ⟨(l.getD j Ls.zero).name, (l.getD j Ls.zero).holder, (l.getD j Ls.zero).token, v⟩).flatMap lcells := by
  induction l generalizing j with
  | nil => simp at hj
  | cons x l ih =>
    cases j with
    | zero => rfl
    | succ j =>
      have := ih j (by simpa using hj)
      simp only [List.flatMap_cons, List.set_cons_succ, List.getD_cons_succ]
      rw [← this, List.set_append_right _ _ (by simp [lcells]; omega)]
      congr 2
      simp [lcells]
      omega
set_option maxRecDepth 100000 in
set_option maxHeartbeats 2000000 in
theorem renew_walk (t : Tb) (n h k now d : Int) (s : Value) (w : World) (hR : Rd w s t.ls) (hn : t.ls.length ≤ 1000000) :
    Calls Try.prog 17 #[tval t.next s, .int .i64 n, .int .i64 h, .int .i64 k, .int .i64 now, .int .i64 d] w (TePost (ren cds t n h k now d) w) := by
  obtain ⟨next, l⟩ := t
  simp only at hR hn ⊢
  obtain ⟨ao, cap, rfl, hc1, hc2⟩ := Sl.shape hR
  have HR := hid hR
  obtain ⟨r, hr⟩ : ∃ r, r = ren cds ⟨next, l⟩ n h k now d := ⟨_, rfl⟩
  rw [← hr]
  have HRR := hid hr
  clear hR hr
  unfold tval
  obtain ⟨W, hW⟩ : ∃ W, W = (((w.alloc (.cells #[.int .i64 next, .slice ao l.length cap] 24)).alloc (.cells #[.int .i64 0, .slice none 0 0] 24)).alloc (.cells #[.int .i64 0] 26)) := ⟨_, rfl⟩
  have F0 := hid (show EF 24 26 w W next (.slice ao l.length cap) [.int .i64 0, .slice none 0 0] [.int .i64 0] from by rw [hW]; exact EF.start w next _ _ _ _ _)
  have HWW := hid hW
  clear hW
  have hmf : ∀ (fn : Fn) (first cap : Array Value) (w : World), (Instr.makeFunc fn first cap).run Try.prog w = .ok (.func fn first cap) w := fun _ _ _ _ => rfl
  go_enter_defers Try.func17, Try.ntmps17
  go_wp2_with fail
  rw [← HWW.out]
  refine (valid_walk l next _ W (Sl.kn HR.out F0.out.g) (by omega)).mono ?_
  rintro e w1 ⟨rfl, g1⟩
  have F1 := hid (F0.out.call g1)
  clear g1 hmf HWW
  cases hok : Tb.ok ⟨next, l⟩ with
  | false =>
    have hr : r = (.zero, 1) := HRR.out.trans (ren_inv1 hok)
    have HE := hid hr
    clear hr
    have a0 : w1.cell? ⟨w.heap.size + 1, 0, none⟩ = some (.int .i64 0) := by rw [cell_of_row _ _ _ _ _ _ F1.out.b1]; rfl
    have a1 : w1.cell? ⟨w.heap.size + 1, 1, none⟩ = some (.slice none 0 0) := by rw [cell_of_row _ _ _ _ _ _ F1.out.b1]; rfl
    have a2 : w1.cell? ⟨w.heap.size + 1 + 1, 0, none⟩ = some (.int .i64 0) := by rw [cell_of_row _ _ _ _ _ _ F1.out.b2]; rfl
    have f0 : w1.frozen? ⟨w.heap.size + 1, 0, none⟩ = false := frozen_of_row _ _ _ _ _ F1.out.b1
    have f1 : w1.frozen? ⟨w.heap.size + 1, 1, none⟩ = false := frozen_of_row _ _ _ _ _ F1.out.b1
    have f2 : w1.frozen? ⟨w.heap.size + 1 + 1, 0, none⟩ = false := frozen_of_row _ _ _ _ _ F1.out.b2
    go_wp2
    refine leaves_cons (f := 39) (args := #[.pointer (some ⟨w.heap.size + 1, 0, none⟩), .pointer (some ⟨w.heap.size + 1 + 1, 0, none⟩)]) (by simp) (by simp [go_sem]) ?_
    refine (recRenew_walk _ _ _).mono ?_
    rintro e u' w'' ⟨rfl, rfl, rfl⟩
    have FZ := (EF.fin24 F1.out (.int .i64 0) (.slice none 0 0) (.int .i64 1)).1
    exact ⟨_, results2 rfl rfl rfl (tyT _ _ _ _) (tyE _) FZ.b1 FZ.b2, by rw [HE.out]; exact ⟨.slice none 0 0, rfl, Sl.nil _ _, FZ.g⟩⟩
  | true =>
    have hA := ((Tb.ok_iff _).1 hok).2.1
    simp only at hA
    have HOK := hid hok
    have HA := hid hA
    clear hA hok
    go_wp2_with fail
    refine (validTime_walk now _).mono ?_
    rintro e w' ⟨rfl, rfl⟩
    cases hvt : vT now with
    | false =>
      have HVT := hid hvt
      clear hvt
      have hr : r = (.zero, 1) := HRR.out.trans (ren_inv2 (by rw [timely_eq, HVT.out]; rfl))
      have HE := hid hr
      clear hr
      have a0 : w'.cell? ⟨w.heap.size + 1, 0, none⟩ = some (.int .i64 0) := by rw [cell_of_row _ _ _ _ _ _ F1.out.b1]; rfl
      have a1 : w'.cell? ⟨w.heap.size + 1, 1, none⟩ = some (.slice none 0 0) := by rw [cell_of_row _ _ _ _ _ _ F1.out.b1]; rfl
      have a2 : w'.cell? ⟨w.heap.size + 1 + 1, 0, none⟩ = some (.int .i64 0) := by rw [cell_of_row _ _ _ _ _ _ F1.out.b2]; rfl
      have f0 : w'.frozen? ⟨w.heap.size + 1, 0, none⟩ = false := frozen_of_row _ _ _ _ _ F1.out.b1
      have f1 : w'.frozen? ⟨w.heap.size + 1, 1, none⟩ = false := frozen_of_row _ _ _ _ _ F1.out.b1
      have f2 : w'.frozen? ⟨w.heap.size + 1 + 1, 0, none⟩ = false := frozen_of_row _ _ _ _ _ F1.out.b2
      go_wp2
      refine leaves_cons (f := 39) (args := #[.pointer (some ⟨w.heap.size + 1, 0, none⟩), .pointer (some ⟨w.heap.size + 1 + 1, 0, none⟩)]) (by simp) (by simp [go_sem]) ?_
      refine (recRenew_walk _ _ _).mono ?_
      rintro e u' w'' ⟨rfl, rfl, rfl⟩
      have FZ := (EF.fin24 F1.out (.int .i64 0) (.slice none 0 0) (.int .i64 1)).1
      exact ⟨_, results2 rfl rfl rfl (tyT _ _ _ _) (tyE _) FZ.b1 FZ.b2, by rw [HE.out]; exact ⟨.slice none 0 0, rfl, Sl.nil _ _, FZ.g⟩⟩
    | true =>
      have HVT := hid hvt
      clear hvt
      go_wp2_with fail
      refine (validDuration_walk d _).mono ?_
      rintro e w' ⟨rfl, rfl⟩
      cases hvd : vD d with
      | false =>
        have HVD := hid hvd
        clear hvd
        have hr : r = (.zero, 1) := HRR.out.trans (ren_inv2 (by rw [timely_eq, HVT.out, HVD.out]; rfl))
        have HE := hid hr
        clear hr
        have a0 : w'.cell? ⟨w.heap.size + 1, 0, none⟩ = some (.int .i64 0) := by rw [cell_of_row _ _ _ _ _ _ F1.out.b1]; rfl
        have a1 : w'.cell? ⟨w.heap.size + 1, 1, none⟩ = some (.slice none 0 0) := by rw [cell_of_row _ _ _ _ _ _ F1.out.b1]; rfl
        have a2 : w'.cell? ⟨w.heap.size + 1 + 1, 0, none⟩ = some (.int .i64 0) := by rw [cell_of_row _ _ _ _ _ _ F1.out.b2]; rfl
        have f0 : w'.frozen? ⟨w.heap.size + 1, 0, none⟩ = false := frozen_of_row _ _ _ _ _ F1.out.b1
        have f1 : w'.frozen? ⟨w.heap.size + 1, 1, none⟩ = false := frozen_of_row _ _ _ _ _ F1.out.b1
        have f2 : w'.frozen? ⟨w.heap.size + 1 + 1, 0, none⟩ = false := frozen_of_row _ _ _ _ _ F1.out.b2
        go_wp2
        refine leaves_cons (f := 39) (args := #[.pointer (some ⟨w.heap.size + 1, 0, none⟩), .pointer (some ⟨w.heap.size + 1 + 1, 0, none⟩)]) (by simp) (by simp [go_sem]) ?_
        refine (recRenew_walk _ _ _).mono ?_
        rintro e u' w'' ⟨rfl, rfl, rfl⟩
        have FZ := (EF.fin24 F1.out (.int .i64 0) (.slice none 0 0) (.int .i64 1)).1
        exact ⟨_, results2 rfl rfl rfl (tyT _ _ _ _) (tyE _) FZ.b1 FZ.b2, by rw [HE.out]; exact ⟨.slice none 0 0, rfl, Sl.nil _ _, FZ.g⟩⟩
      | true =>
        have HTM := hid (show timely now d = true by rw [timely_eq, HVT.out, hvd]; rfl)
        clear hvd
        have c0 : w'.cell? ⟨w.heap.size, 0, none⟩ = some (.int .i64 next) := by rw [cell_of_row _ _ _ _ _ _ F1.out.b0]; rfl
        have c1 : w'.cell? ⟨w.heap.size, 1, none⟩ = some (.slice ao l.length cap) := by rw [cell_of_row _ _ _ _ _ _ F1.out.b0]; rfl
        go_wp2_with fail
        refine (search_walk l next n _ _ (Sl.kn HR.out F1.out.g) HA.out hn).mono ?_
        rintro e w2 ⟨rfl, g2⟩
        have F2 := hid (F1.out.call g2)
        clear g2 c0 c1
        have c0 : w2.cell? ⟨w.heap.size, 0, none⟩ = some (.int .i64 next) := by rw [cell_of_row _ _ _ _ _ _ F2.out.b0]; rfl
        have c1 : w2.cell? ⟨w.heap.size, 1, none⟩ = some (.slice ao l.length cap) := by rw [cell_of_row _ _ _ _ _ _ F2.out.b0]; rfl
        cases hlk : look n l with
        | none =>
          have HLK := hid hlk
          clear hlk
          simp only [Option.isSome_none]
          have hr : r = (.zero, 102) := HRR.out.trans (ren_exp0 HOK.out HTM.out HLK.out)
          have HE := hid hr
          clear hr
          have a0 : w2.cell? ⟨w.heap.size + 1, 0, none⟩ = some (.int .i64 0) := by rw [cell_of_row _ _ _ _ _ _ F2.out.b1]; rfl
          have a1 : w2.cell? ⟨w.heap.size + 1, 1, none⟩ = some (.slice none 0 0) := by rw [cell_of_row _ _ _ _ _ _ F2.out.b1]; rfl
          have a2 : w2.cell? ⟨w.heap.size + 1 + 1, 0, none⟩ = some (.int .i64 0) := by rw [cell_of_row _ _ _ _ _ _ F2.out.b2]; rfl
          have f0 : w2.frozen? ⟨w.heap.size + 1, 0, none⟩ = false := frozen_of_row _ _ _ _ _ F2.out.b1
          have f1 : w2.frozen? ⟨w.heap.size + 1, 1, none⟩ = false := frozen_of_row _ _ _ _ _ F2.out.b1
          have f2 : w2.frozen? ⟨w.heap.size + 1 + 1, 0, none⟩ = false := frozen_of_row _ _ _ _ _ F2.out.b2
          go_wp2
          refine leaves_cons (f := 39) (args := #[.pointer (some ⟨w.heap.size + 1, 0, none⟩), .pointer (some ⟨w.heap.size + 1 + 1, 0, none⟩)]) (by simp) (by simp [go_sem]) ?_
          refine (recRenew_walk _ _ _).mono ?_
          rintro e u' w'' ⟨rfl, rfl, rfl⟩
          have FZ := (EF.fin24 F2.out (.int .i64 0) (.slice none 0 0) (.int .i64 102)).1
          exact ⟨_, results2 rfl rfl rfl (tyT _ _ _ _) (tyE _) FZ.b1 FZ.b2, by rw [HE.out]; exact ⟨.slice none 0 0, rfl, Sl.nil _ _, FZ.g⟩⟩
        | some x =>
          have HLK := hid hlk
          obtain ⟨hk, hx⟩ := look_place HA.out hlk
          have HX := hid hx
          clear hlk hx
          obtain ⟨b, off, rfl⟩ := Rd.base HR.out (by omega)
          obtain ⟨d0, d1, d2, d3⟩ := Rd.four (Sl.kn HR.out F2.out.g) _ hk
          rw [HX.out] at d0 d1 d2 d3
          generalize hkk : (lo n l).length = j at *
          have HKK := hid hkk
          clear hkk
          have i1 : (0 : Int) ≤ (j : Int) := by omega
          have i2 : (j : Int) < (l.length : Int) := by omega
          have i3 : (j : Int) ≤ (l.length : Int) := by omega
          simp only [Option.isSome_some]
          by_cases hh : x.holder = h
          · have dh : (x.holder != h) = false := by simp [hh]
            have HH := hid hh
            clear hh
            by_cases ht : x.token = k
            · have dt : (x.token != k) = false := by simp [ht]
              have HT := hid ht
              clear ht
              go_wp2_with fail
              refine (expired_walk x now _).mono ?_
              rintro e w3 ⟨rfl, g3⟩
              have F3 := hid (F2.out.call g3)
              clear g3 d0 d1 d2 d3 c0 c1
              have c0 : w3.cell? ⟨w.heap.size, 0, none⟩ = some (.int .i64 next) := by rw [cell_of_row _ _ _ _ _ _ F3.out.b0]; rfl
              have c1 : w3.cell? ⟨w.heap.size, 1, none⟩ = some (.slice (some ⟨b, off, none⟩) l.length cap) := by rw [cell_of_row _ _ _ _ _ _ F3.out.b0]; rfl
              by_cases hxt : x.till ≤ now
              · have dx : decide (x.till ≤ now) = true := decide_eq_true hxt
                have HXT := hid hxt
                clear hxt
                have hr : r = (.zero, 102) := HRR.out.trans (ren_exp1 HOK.out HTM.out HLK.out (fun h => by have := h.2.2; have := HXT.out; omega))
                have HE := hid hr
                clear hr
                have a0 : w3.cell? ⟨w.heap.size + 1, 0, none⟩ = some (.int .i64 0) := by rw [cell_of_row _ _ _ _ _ _ F3.out.b1]; rfl
                have a1 : w3.cell? ⟨w.heap.size + 1, 1, none⟩ = some (.slice none 0 0) := by rw [cell_of_row _ _ _ _ _ _ F3.out.b1]; rfl
                have a2 : w3.cell? ⟨w.heap.size + 1 + 1, 0, none⟩ = some (.int .i64 0) := by rw [cell_of_row _ _ _ _ _ _ F3.out.b2]; rfl
                have f0 : w3.frozen? ⟨w.heap.size + 1, 0, none⟩ = false := frozen_of_row _ _ _ _ _ F3.out.b1
                have f1 : w3.frozen? ⟨w.heap.size + 1, 1, none⟩ = false := frozen_of_row _ _ _ _ _ F3.out.b1
                have f2 : w3.frozen? ⟨w.heap.size + 1 + 1, 0, none⟩ = false := frozen_of_row _ _ _ _ _ F3.out.b2
                go_wp2
                refine leaves_cons (f := 39) (args := #[.pointer (some ⟨w.heap.size + 1, 0, none⟩), .pointer (some ⟨w.heap.size + 1 + 1, 0, none⟩)]) (by simp) (by simp [go_sem]) ?_
                refine (recRenew_walk _ _ _).mono ?_
                rintro e u' w'' ⟨rfl, rfl, rfl⟩
                have FZ := (EF.fin24 F3.out (.int .i64 0) (.slice none 0 0) (.int .i64 102)).1
                exact ⟨_, results2 rfl rfl rfl (tyT _ _ _ _) (tyE _) FZ.b1 FZ.b2, by rw [HE.out]; exact ⟨.slice none 0 0, rfl, Sl.nil _ _, FZ.g⟩⟩
              · have dx : decide (x.till ≤ now) = false := decide_eq_false hxt
                have HXT := hid (show now < x.till by omega)
                clear hxt
                have hr : r = (⟨next, ins ⟨n, h, k, max x.till (now + d)⟩ l⟩, 0) := HRR.out.trans (ren_ok HOK.out HTM.out HLK.out ⟨HH.out, HT.out, HXT.out⟩)
                have HE := hid hr
                clear hr
                go_wp2_with fail
                refine (clone_walk l next _ w3 (Sl.kn HR.out F3.out.g) hn).mono ?_
                rintro e w5 ⟨v, rfl, hown, hf⟩
                obtain ⟨g, cap2, rfl⟩ := hown.shp (by omega)
                have z2 := (Array.getElem?_eq_some_iff.1 F3.out.b2).1
                have hg4 : w3.heap.size ≤ g := by
                  rcases hf.2 g rfl with h | h
                  · simp [Value.ownBlock] at h
                  · exact h
                have F5 := hid (F3.out.call (Step.none hf))
                have HG4 := hid (show w.heap.size + 1 + 1 < g by omega)
                have O5 := hid hown
                clear hown hf hg4 c0 c1 dh dt dx z2
                have hbt : -1099511627776 ≤ now ∧ now ≤ 1099511627776 ∧ 1 ≤ d ∧ d ≤ 1099511627776 := by have := HTM.out; unfold timely Top at this; simp at this; omega
                obtain ⟨b1, b2, b3, b4⟩ := hbt
                go_wp2_with (first
                  | (refine wpList_storeTYg rfl 24 (.tmp 12) (.tmp 70) rfl rfl rfl (tyT _ _ _ _) F5.out.b1 rfl ?_; intro w6 g6 h6; have F6 := hid (F5.out.s1 (A' := [.int .i64 next, .slice (some ⟨g, 0, none⟩) l.length cap2]) g6 h6); have O6 := hid (Own.past O5.out g6 F5.out.b1 (by decide)); clear g6 h6)
                  | fail)
                have q1 : w6.cell? ⟨w.heap.size + 1, 1, none⟩ = some (.slice (some ⟨g, 0, none⟩) l.length cap2) := by rw [cell_of_row _ _ _ _ _ _ F6.out.b1]; rfl
                obtain ⟨e0, e1, e2, e3⟩ := Rd.four (Own.rd O6.out) j hk
                rw [HX.out] at e0 e1 e2 e3
                simp only [Nat.zero_add] at e0 e1 e2 e3
                obtain ⟨D, hD, _, _, hDl, _⟩ := O6.out.blk
                have fz : w6.frozen? ⟨g, j * 4 + 3, none⟩ = false := frozen_of_row _ _ _ _ _ hD
                have HD := hid hD
                have m1 : IntKind.i64.wrap (now + d) = now + d := by rw [IntKind.wrap_i64]; omega
                clear e0 e1 e2 hD hDl
                have hVV : (if x.till < now + d then now + d else x.till) = max x.till (now + d) := by rw [Int.max_def]; split <;> split <;> omega
                have HVV := hid hVV
                have hxn := (look_some HLK.out).1
                have hset : (l.flatMap lcells).set (j * 4 + 3) (.int .i64 (max x.till (now + d))) = (ins ⟨n, h, k, max x.till (now + d)⟩ l).flatMap lcells := by
                  rw [set_flat l j hk, HX.out, ← set_ins HA.out HLK.out (y := ⟨n, h, k, max x.till (now + d)⟩) rfl, HKK.out]
                  have : (⟨x.name, x.holder, x.token, max x.till (now + d)⟩ : Ls) = ⟨n, h, k, max x.till (now + d)⟩ := by rw [hxn, HH.out, HT.out]
                  rw [this]
                have HSET := hid hset
                clear hVV hxn hset
                refine wp_region_noPanic ?_
                go_region
                all_goals
                  refine NoPanic.normal ?_
                  rw [HVV.out]
                  have g7 := grown_setCell w6 ⟨g, j * 4 + 3, none⟩ (.int .i64 (max x.till (now + d)))
                  have F7 := hid ((F6.out.far g7 HG4.out).call (grown_drew _))
                  have O7 := hid (Own.kn (World.ownsRow.stored O6.out (j * 4 + 3) (.int .i64 (max x.till (now + d)))).1 (grown_drew _))
                  generalize (w6.setCell ⟨g, j * 4 + 3, none⟩ (.int .i64 (max x.till (now + d)))).drew = w7 at *
                  clear g7 q1 e3 fz m1
                  have a0 : w7.cell? ⟨w.heap.size + 1, 0, none⟩ = some (.int .i64 next) := by rw [cell_of_row _ _ _ _ _ _ F7.out.b1]; rfl
                  have a1 : w7.cell? ⟨w.heap.size + 1, 1, none⟩ = some (.slice (some ⟨g, 0, none⟩) l.length cap2) := by rw [cell_of_row _ _ _ _ _ _ F7.out.b1]; rfl
                  have a2 : w7.cell? ⟨w.heap.size + 1 + 1, 0, none⟩ = some (.int .i64 0) := by rw [cell_of_row _ _ _ _ _ _ F7.out.b2]; rfl
                  have f0 : w7.frozen? ⟨w.heap.size + 1, 0, none⟩ = false := frozen_of_row _ _ _ _ _ F7.out.b1
                  have f1 : w7.frozen? ⟨w.heap.size + 1, 1, none⟩ = false := frozen_of_row _ _ _ _ _ F7.out.b1
                  have f2 : w7.frozen? ⟨w.heap.size + 1 + 1, 0, none⟩ = false := frozen_of_row _ _ _ _ _ F7.out.b2
                  go_wp2_with fail
                  refine leaves_cons (f := 39) (args := #[.pointer (some ⟨w.heap.size + 1, 0, none⟩), .pointer (some ⟨w.heap.size + 1 + 1, 0, none⟩)]) (by simp) (by simp [go_sem]) ?_
                  refine (recRenew_walk _ _ _).mono ?_
                  rintro e u' w'' ⟨rfl, rfl, rfl⟩
                  have FZ := EF.fin24 F7.out (.int .i64 next) (.slice (some ⟨g, 0, none⟩) l.length cap2) (.int .i64 0)
                  have OZ := FZ.2 O7.out
                  rw [HSET.out] at OZ
                  exact ⟨_, results2 rfl rfl rfl (tyT _ _ _ _) (tyE _) FZ.1.b1 FZ.1.b2, by rw [HE.out]; exact ⟨_, rfl, Own.rd OZ, FZ.1.g⟩⟩
            · have dt : (x.token != k) = true := by simp [ht]
              have HT := hid ht
              clear ht
              have hr : r = (.zero, 102) := HRR.out.trans (ren_exp1 HOK.out HTM.out HLK.out (fun h => HT.out h.2.1))
              have HE := hid hr
              clear hr
              have a0 : w2.cell? ⟨w.heap.size + 1, 0, none⟩ = some (.int .i64 0) := by rw [cell_of_row _ _ _ _ _ _ F2.out.b1]; rfl
              have a1 : w2.cell? ⟨w.heap.size + 1, 1, none⟩ = some (.slice none 0 0) := by rw [cell_of_row _ _ _ _ _ _ F2.out.b1]; rfl
              have a2 : w2.cell? ⟨w.heap.size + 1 + 1, 0, none⟩ = some (.int .i64 0) := by rw [cell_of_row _ _ _ _ _ _ F2.out.b2]; rfl
              have f0 : w2.frozen? ⟨w.heap.size + 1, 0, none⟩ = false := frozen_of_row _ _ _ _ _ F2.out.b1
              have f1 : w2.frozen? ⟨w.heap.size + 1, 1, none⟩ = false := frozen_of_row _ _ _ _ _ F2.out.b1
              have f2 : w2.frozen? ⟨w.heap.size + 1 + 1, 0, none⟩ = false := frozen_of_row _ _ _ _ _ F2.out.b2
              go_wp2
              refine leaves_cons (f := 39) (args := #[.pointer (some ⟨w.heap.size + 1, 0, none⟩), .pointer (some ⟨w.heap.size + 1 + 1, 0, none⟩)]) (by simp) (by simp [go_sem]) ?_
              refine (recRenew_walk _ _ _).mono ?_
              rintro e u' w'' ⟨rfl, rfl, rfl⟩
              have FZ := (EF.fin24 F2.out (.int .i64 0) (.slice none 0 0) (.int .i64 102)).1
              exact ⟨_, results2 rfl rfl rfl (tyT _ _ _ _) (tyE _) FZ.b1 FZ.b2, by rw [HE.out]; exact ⟨.slice none 0 0, rfl, Sl.nil _ _, FZ.g⟩⟩
          · have dh : (x.holder != h) = true := by simp [hh]
            have HH := hid hh
            clear hh
            have hr : r = (.zero, 102) := HRR.out.trans (ren_exp1 HOK.out HTM.out HLK.out (fun h => HH.out h.1))
            have HE := hid hr
            clear hr
            have a0 : w2.cell? ⟨w.heap.size + 1, 0, none⟩ = some (.int .i64 0) := by rw [cell_of_row _ _ _ _ _ _ F2.out.b1]; rfl
            have a1 : w2.cell? ⟨w.heap.size + 1, 1, none⟩ = some (.slice none 0 0) := by rw [cell_of_row _ _ _ _ _ _ F2.out.b1]; rfl
            have a2 : w2.cell? ⟨w.heap.size + 1 + 1, 0, none⟩ = some (.int .i64 0) := by rw [cell_of_row _ _ _ _ _ _ F2.out.b2]; rfl
            have f0 : w2.frozen? ⟨w.heap.size + 1, 0, none⟩ = false := frozen_of_row _ _ _ _ _ F2.out.b1
            have f1 : w2.frozen? ⟨w.heap.size + 1, 1, none⟩ = false := frozen_of_row _ _ _ _ _ F2.out.b1
            have f2 : w2.frozen? ⟨w.heap.size + 1 + 1, 0, none⟩ = false := frozen_of_row _ _ _ _ _ F2.out.b2
            go_wp2
            refine leaves_cons (f := 39) (args := #[.pointer (some ⟨w.heap.size + 1, 0, none⟩), .pointer (some ⟨w.heap.size + 1 + 1, 0, none⟩)]) (by simp) (by simp [go_sem]) ?_
            refine (recRenew_walk _ _ _).mono ?_
            rintro e u' w'' ⟨rfl, rfl, rfl⟩
            have FZ := (EF.fin24 F2.out (.int .i64 0) (.slice none 0 0) (.int .i64 102)).1
            exact ⟨_, results2 rfl rfl rfl (tyT _ _ _ _) (tyE _) FZ.b1 FZ.b2, by rw [HE.out]; exact ⟨.slice none 0 0, rfl, Sl.nil _ _, FZ.g⟩⟩
end Go.Proofs.Ytafippjpaakonaa
