/- Leases: Release. -/
import Derived.Test.YtafippjpaakonaaW11
namespace Go.Proofs.Ytafippjpaakonaa
open Go.RowKit
set_option linter.unusedSimpArgs false
set_option linter.unusedVariables false

/-- three blocks made at the head of a function: the boxed table, a second and a third one -/
structure EF (T1 T2 : TypeId) (w wr : World) (next : Int) (sv : Value) (A E : List Value) : Prop where
  g : w.grownBy wr none
  b0 : wr.heap[w.heap.size]? = some (.cells #[.int .i64 next, sv] 24 (0, 0))
  b1 : wr.heap[w.heap.size + 1]? = some (.cells A.toArray T1 (0, 0))
  b2 : wr.heap[w.heap.size + 1 + 1]? = some (.cells E.toArray T2 (0, 0))
section
variable {T1 T2 : TypeId} {w wr w' : World} {next : Int} {sv : Value} {A E : List Value}
theorem EF.start (w : World) (next : Int) (sv : Value) (A E : List Value) (T1 T2 : TypeId) : EF T1 T2 w (((w.alloc (.cells #[.int .i64 next, sv] 24)).alloc (.cells A.toArray T1)).alloc (.cells E.toArray T2)) next sv A E :=
  ⟨grown_trans (grown_trans (World.grownBy_alloc _ _ _) (World.grownBy_alloc _ _ _)) (World.grownBy_alloc _ _ _),
   by rw [heap_past (by simp <;> omega), heap_past (by simp <;> omega), heap_at rfl],
   by rw [heap_past (by simp <;> omega), heap_at (by simp <;> omega)],
   by rw [heap_at (by simp <;> omega)]⟩
theorem EF.call (h : EF T1 T2 w wr next sv A E) (g : wr.grownBy w' none) : EF T1 T2 w w' next sv A E :=
  ⟨grown_trans h.g g, row_of g h.b0 (by simp), row_of g h.b1 (by simp), row_of g h.b2 (by simp)⟩
theorem EF.s1 {A' : List Value} (h : EF T1 T2 w wr next sv A E) (g : wr.grownBy w' (some (w.heap.size + 1))) (hb : w'.heap[w.heap.size + 1]? = some (.cells A'.toArray T1 (0, 0))) : EF T1 T2 w w' next sv A' E :=
  ⟨grown_newR h.g g (by omega), row_of g h.b0 (by simp), hb, row_of g h.b2 (by simp)⟩
theorem EF.s2 {E' : List Value} (h : EF T1 T2 w wr next sv A E) (g : wr.grownBy w' (some (w.heap.size + 1 + 1))) (hb : w'.heap[w.heap.size + 1 + 1]? = some (.cells E'.toArray T2 (0, 0))) : EF T1 T2 w w' next sv A E' :=
  ⟨grown_newR h.g g (by omega), row_of g h.b0 (by simp <;> omega), row_of g h.b1 (by simp), hb⟩
theorem EF.far {k : Nat} (h : EF T1 T2 w wr next sv A E) (g : wr.grownBy w' (some k)) (hk : w.heap.size + 1 + 1 < k) : EF T1 T2 w w' next sv A E :=
  ⟨grown_newR h.g g (by omega), row_of g h.b0 (by simp <;> omega), row_of g h.b1 (by simp <;> omega), row_of g h.b2 (by simp <;> omega)⟩
theorem EF.step {q : Option Nat} (h : EF T1 T2 w wr next sv A E) (g : wr.grownBy w' q) (hk : ∀ k, q = some k → w.heap.size + 1 + 1 < k) : EF T1 T2 w w' next sv A E := by
  cases q with
  | none => exact h.call g
  | some k => exact h.far g (hk k rfl)
theorem EF.fin24 {a0 a1 e0 : Value} (h : EF 24 26 w wr next sv [a0, a1] [e0]) (x y e : Value) :
    EF 24 26 w (((wr.setCell ⟨w.heap.size + 1, 0, none⟩ x).setCell ⟨w.heap.size + 1, 1, none⟩ y).setCell ⟨w.heap.size + 1 + 1, 0, none⟩ e) next sv [x, y] [e] ∧
    ∀ {v : Value} {n : Nat} {xs : List Value}, Own wr 38 4 v n xs → Own (((wr.setCell ⟨w.heap.size + 1, 0, none⟩ x).setCell ⟨w.heap.size + 1, 1, none⟩ y).setCell ⟨w.heap.size + 1 + 1, 0, none⟩ e) 38 4 v n xs := by
  have f1 := h.s1 (A' := [x, a1]) (grown_setCell wr ⟨w.heap.size + 1, 0, none⟩ x) (by simpa using heap_setCell_same wr (w.heap.size + 1) 0 _ 24 x h.b1)
  have f2 := f1.s1 (A' := [x, y]) (grown_setCell _ ⟨w.heap.size + 1, 1, none⟩ y) (by simpa using heap_setCell_same _ (w.heap.size + 1) 1 _ 24 y f1.b1)
  have f3 := f2.s2 (E' := [e]) (grown_setCell _ ⟨w.heap.size + 1 + 1, 0, none⟩ e) (by simpa using heap_setCell_same _ (w.heap.size + 1 + 1) 0 _ 26 e f2.b2)
  refine ⟨f3, fun ho => ?_⟩
  have o1 := Own.past ho (grown_setCell wr ⟨w.heap.size + 1, 0, none⟩ x) h.b1 (by decide)
  have o2 := Own.past o1 (grown_setCell _ ⟨w.heap.size + 1, 1, none⟩ y) f1.b1 (by decide)
  exact Own.past o2 (grown_setCell _ ⟨w.heap.size + 1 + 1, 0, none⟩ e) f2.b2 (by decide)
theorem EF.fin38 {a0 a1 a2 a3 e0 : Value} (h : EF 38 4 w wr next sv [a0, a1, a2, a3] [e0]) (x y z u e : Value) :
    EF 38 4 w (((((wr.setCell ⟨w.heap.size + 1, 0, none⟩ x).setCell ⟨w.heap.size + 1, 1, none⟩ y).setCell ⟨w.heap.size + 1, 2, none⟩ z).setCell ⟨w.heap.size + 1, 3, none⟩ u).setCell ⟨w.heap.size + 1 + 1, 0, none⟩ e) next sv [x, y, z, u] [e] := by
  have f1 := h.s1 (A' := [x, a1, a2, a3]) (grown_setCell wr ⟨w.heap.size + 1, 0, none⟩ x) (by simpa using heap_setCell_same wr (w.heap.size + 1) 0 _ 38 x h.b1)
  have f2 := f1.s1 (A' := [x, y, a2, a3]) (grown_setCell _ ⟨w.heap.size + 1, 1, none⟩ y) (by simpa using heap_setCell_same _ (w.heap.size + 1) 1 _ 38 y f1.b1)
  have f3 := f2.s1 (A' := [x, y, z, a3]) (grown_setCell _ ⟨w.heap.size + 1, 2, none⟩ z) (by simpa using heap_setCell_same _ (w.heap.size + 1) 2 _ 38 z f2.b1)
  have f4 := f3.s1 (A' := [x, y, z, u]) (grown_setCell _ ⟨w.heap.size + 1, 3, none⟩ u) (by simpa using heap_setCell_same _ (w.heap.size + 1) 3 _ 38 u f3.b1)
  exact f4.s2 (E' := [e]) (grown_setCell _ ⟨w.heap.size + 1 + 1, 0, none⟩ e) (by simpa using heap_setCell_same _ (w.heap.size + 1 + 1) 0 _ 4 e f4.b2)
end
/-- a table and an error are returned -/
def TePost (r : Tb × Int) (w : World) (e : Ending) (w' : World) : Prop :=
  ∃ s', e = .returned (.tuple #[tval r.1.next s', .int .i64 r.2]) ∧ Rd w' s' r.1.ls ∧ w.grownBy w' none
theorem rel_inv {c : Codes} {t : Tb} {n h k : Int} (h1 : t.ok = false) : rel c t n h k = (.zero, c.invalid) := by unfold rel; rw [h1]; rfl
theorem rel_exp0 {c : Codes} {t : Tb} {n h k : Int} (h1 : t.ok = true) (h3 : look n t.ls = none) : rel c t n h k = (.zero, c.expired) := by unfold rel; rw [h1, h3]; rfl
theorem rel_exp1 {c : Codes} {t : Tb} {n h k : Int} {x : Ls} (h1 : t.ok = true) (h3 : look n t.ls = some x) (h4 : ¬ (x.holder = h ∧ x.token = k)) : rel c t n h k = (.zero, c.expired) := by unfold rel; rw [h1, h3]; simp only [Bool.not_true, Bool.false_eq_true, if_false]; rw [if_neg h4]
theorem rel_ok {c : Codes} {t : Tb} {n h k : Int} {x : Ls} (h1 : t.ok = true) (h3 : look n t.ls = some x) (h4 : x.holder = h ∧ x.token = k) : rel c t n h k = (⟨t.next, del n t.ls⟩, 0) := by unfold rel; rw [h1, h3]; simp only [Bool.not_true, Bool.false_eq_true, if_false]; rw [if_pos h4]
theorem ren_inv1 {c : Codes} {t : Tb} {n h k now d : Int} (h1 : t.ok = false) : ren c t n h k now d = (.zero, c.invalid) := by unfold ren; rw [h1]; rfl
theorem ren_inv2 {c : Codes} {t : Tb} {n h k now d : Int} (h1 : timely now d = false) : ren c t n h k now d = (.zero, c.invalid) := by unfold ren; rw [h1]; cases t.ok <;> rfl
theorem ren_exp0 {c : Codes} {t : Tb} {n h k now d : Int} (h1 : t.ok = true) (h2 : timely now d = true) (h3 : look n t.ls = none) : ren c t n h k now d = (.zero, c.expired) := by unfold ren; rw [h1, h2, h3]; rfl
theorem ren_exp1 {c : Codes} {t : Tb} {n h k now d : Int} {x : Ls} (h1 : t.ok = true) (h2 : timely now d = true) (h3 : look n t.ls = some x) (h4 : ¬ (x.holder = h ∧ x.token = k ∧ now < x.till)) : ren c t n h k now d = (.zero, c.expired) := by unfold ren; rw [h1, h2, h3]; simp only [Bool.not_true, Bool.or_self, Bool.false_eq_true, if_false]; rw [if_neg h4]
theorem ren_ok {c : Codes} {t : Tb} {n h k now d : Int} {x : Ls} (h1 : t.ok = true) (h2 : timely now d = true) (h3 : look n t.ls = some x) (h4 : x.holder = h ∧ x.token = k ∧ now < x.till) : ren c t n h k now d = (⟨t.next, ins ⟨n, h, k, max x.till (now + d)⟩ t.ls⟩, 0) := by unfold ren; rw [h1, h2, h3]; simp only [Bool.not_true, Bool.or_self, Bool.false_eq_true, if_false]; rw [if_pos h4]
set_option maxRecDepth 100000 in
set_option maxHeartbeats 2000000 in
theorem release_walk (t : Tb) (n h k : Int) (s : Value) (w : World) (hR : Rd w s t.ls) (hn : t.ls.length ≤ 1000000) :
    Calls Try.prog 18 #[tval t.next s, .int .i64 n, .int .i64 h, .int .i64 k] w (TePost (rel cds t n h k) w) := by
  obtain ⟨next, l⟩ := t
  simp only at hR hn ⊢
  obtain ⟨ao, cap, rfl, hc1, hc2⟩ := Sl.shape hR
  have HR := hid hR
  obtain ⟨r, hr⟩ : ∃ r, r = rel cds ⟨next, l⟩ n h k := ⟨_, rfl⟩
  rw [← hr]
  have HRR := hid hr
  clear hR hr
  unfold tval
  obtain ⟨W, hW⟩ : ∃ W, W = (((w.alloc (.cells #[.int .i64 next, .slice ao l.length cap] 24)).alloc (.cells #[.int .i64 0, .slice none 0 0] 24)).alloc (.cells #[.int .i64 0] 26)) := ⟨_, rfl⟩
  have F0 := hid (show EF 24 26 w W next (.slice ao l.length cap) [.int .i64 0, .slice none 0 0] [.int .i64 0] from by rw [hW]; exact EF.start w next _ _ _ _ _)
  have HWW := hid hW
  clear hW
  have hmf : ∀ (fn : Fn) (first cap : Array Value) (w : World), (Instr.makeFunc fn first cap).run Try.prog w = .ok (.func fn first cap) w := fun _ _ _ _ => rfl
  go_enter_defers Try.func18, Try.ntmps18
  go_wp2_with fail
  rw [← HWW.out]
  refine (valid_walk l next _ W (Sl.kn HR.out F0.out.g) (by omega)).mono ?_
  rintro e w1 ⟨rfl, g1⟩
  have F1 := hid (F0.out.call g1)
  clear g1 hmf HWW
  cases hok : Tb.ok ⟨next, l⟩ with
  | false =>
    have hr : r = (.zero, 1) := HRR.out.trans (rel_inv hok)
    have HE := hid hr
    clear hr
    have a0 : w1.cell? ⟨w.heap.size + 1, 0, none⟩ = some (.int .i64 0) := by rw [cell_of_row _ _ _ _ _ _ F1.out.b1]; rfl
    have a1 : w1.cell? ⟨w.heap.size + 1, 1, none⟩ = some (.slice none 0 0) := by rw [cell_of_row _ _ _ _ _ _ F1.out.b1]; rfl
    have a2 : w1.cell? ⟨w.heap.size + 1 + 1, 0, none⟩ = some (.int .i64 0) := by rw [cell_of_row _ _ _ _ _ _ F1.out.b2]; rfl
    have f0 : w1.frozen? ⟨w.heap.size + 1, 0, none⟩ = false := frozen_of_row _ _ _ _ _ F1.out.b1
    have f1 : w1.frozen? ⟨w.heap.size + 1, 1, none⟩ = false := frozen_of_row _ _ _ _ _ F1.out.b1
    have f2 : w1.frozen? ⟨w.heap.size + 1 + 1, 0, none⟩ = false := frozen_of_row _ _ _ _ _ F1.out.b2
    go_wp2
    refine leaves_cons (f := 40) (args := #[.pointer (some ⟨w.heap.size + 1, 0, none⟩), .pointer (some ⟨w.heap.size + 1 + 1, 0, none⟩)]) (by simp) (by simp [go_sem]) ?_
    refine (recRelease_walk _ _ _).mono ?_
    rintro e u' w'' ⟨rfl, rfl, rfl⟩
    have FZ := (EF.fin24 F1.out (.int .i64 0) (.slice none 0 0) (.int .i64 1)).1
    exact ⟨_, results2 rfl rfl rfl (tyT _ _ _ _) (tyE _) FZ.b1 FZ.b2, by rw [HE.out]; exact ⟨.slice none 0 0, rfl, Sl.nil _ _, FZ.g⟩⟩
  | true =>
    have hA := ((Tb.ok_iff _).1 hok).2.1
    simp only at hA
    have HOK := hid hok
    have HA := hid hA
    clear hA hok
    have c0 : w1.cell? ⟨w.heap.size, 0, none⟩ = some (.int .i64 next) := by rw [cell_of_row _ _ _ _ _ _ F1.out.b0]; rfl
    have c1 : w1.cell? ⟨w.heap.size, 1, none⟩ = some (.slice ao l.length cap) := by rw [cell_of_row _ _ _ _ _ _ F1.out.b0]; rfl
    go_wp2_with fail
    refine (search_walk l next n _ _ (Sl.kn HR.out F1.out.g) HA.out hn).mono ?_
    rintro e w2 ⟨rfl, g2⟩
    have F2 := hid (F1.out.call g2)
    clear g2 c0 c1
    have c0 : w2.cell? ⟨w.heap.size, 0, none⟩ = some (.int .i64 next) := by rw [cell_of_row _ _ _ _ _ _ F2.out.b0]; rfl
    have c1 : w2.cell? ⟨w.heap.size, 1, none⟩ = some (.slice ao l.length cap) := by rw [cell_of_row _ _ _ _ _ _ F2.out.b0]; rfl
    cases hlk : look n l with
    | none =>
      have HLK := hid hlk
      clear hlk
      simp only [Option.isSome_none]
      have hr : r = (.zero, 102) := HRR.out.trans (rel_exp0 HOK.out HLK.out)
      have HE := hid hr
      clear hr
      have a0 : w2.cell? ⟨w.heap.size + 1, 0, none⟩ = some (.int .i64 0) := by rw [cell_of_row _ _ _ _ _ _ F2.out.b1]; rfl
      have a1 : w2.cell? ⟨w.heap.size + 1, 1, none⟩ = some (.slice none 0 0) := by rw [cell_of_row _ _ _ _ _ _ F2.out.b1]; rfl
      have a2 : w2.cell? ⟨w.heap.size + 1 + 1, 0, none⟩ = some (.int .i64 0) := by rw [cell_of_row _ _ _ _ _ _ F2.out.b2]; rfl
      have f0 : w2.frozen? ⟨w.heap.size + 1, 0, none⟩ = false := frozen_of_row _ _ _ _ _ F2.out.b1
      have f1 : w2.frozen? ⟨w.heap.size + 1, 1, none⟩ = false := frozen_of_row _ _ _ _ _ F2.out.b1
      have f2 : w2.frozen? ⟨w.heap.size + 1 + 1, 0, none⟩ = false := frozen_of_row _ _ _ _ _ F2.out.b2
      go_wp2
      refine leaves_cons (f := 40) (args := #[.pointer (some ⟨w.heap.size + 1, 0, none⟩), .pointer (some ⟨w.heap.size + 1 + 1, 0, none⟩)]) (by simp) (by simp [go_sem]) ?_
      refine (recRelease_walk _ _ _).mono ?_
      rintro e u' w'' ⟨rfl, rfl, rfl⟩
      have FZ := (EF.fin24 F2.out (.int .i64 0) (.slice none 0 0) (.int .i64 102)).1
      exact ⟨_, results2 rfl rfl rfl (tyT _ _ _ _) (tyE _) FZ.b1 FZ.b2, by rw [HE.out]; exact ⟨.slice none 0 0, rfl, Sl.nil _ _, FZ.g⟩⟩
    | some x =>
      have HLK := hid hlk
      obtain ⟨hk, hx⟩ := look_place HA.out hlk
      have HX := hid hx
      clear hlk hx
      obtain ⟨b, off, rfl⟩ := Rd.base HR.out (by omega)
      obtain ⟨d0, d1, d2, d3⟩ := Rd.four (Sl.kn HR.out F2.out.g) _ hk
      rw [HX.out] at d0 d1 d2 d3
      generalize hkk : (lo n l).length = j at *
      have HKK := hid hkk
      clear hkk
      have i1 : (0 : Int) ≤ (j : Int) := by omega
      have i2 : (j : Int) < (l.length : Int) := by omega
      have i3 : (j : Int) ≤ (l.length : Int) := by omega
      simp only [Option.isSome_some]
      by_cases hh : x.holder = h
      · have dh : (x.holder != h) = false := by simp [hh]
        have HH := hid hh
        clear hh
        by_cases ht : x.token = k
        · have dt : (x.token != k) = false := by simp [ht]
          have HT := hid ht
          clear ht
          have hr : r = (⟨next, del n l⟩, 0) := HRR.out.trans (rel_ok HOK.out HLK.out ⟨HH.out, HT.out⟩)
          have HE := hid hr
          clear hr
          go_wp2_with fail
          refine (clone_walk l next _ w2 (Sl.kn HR.out F2.out.g) hn).mono ?_
          rintro e w5 ⟨v, rfl, hown, hf⟩
          obtain ⟨g, cap2, rfl⟩ := hown.shp (by omega)
          have z2 := (Array.getElem?_eq_some_iff.1 F2.out.b2).1
          have hg4 : w2.heap.size ≤ g := by
            rcases hf.2 g rfl with h | h
            · simp [Value.ownBlock] at h
            · exact h
          have F5 := hid (F2.out.call (Step.none hf))
          have HG4 := hid (show w.heap.size + 1 + 1 < g by omega)
          have O5 := hid hown
          clear hown hf hg4 c0 c1 d0 d1 d2 d3 dh dt
          go_wp2_with (first
            | (refine wpList_storeTYg rfl 24 (.tmp 8) (.tmp 47) rfl rfl rfl (tyT _ _ _ _) F5.out.b1 rfl ?_; intro w6 g6 h6; have F6 := hid (F5.out.s1 g6 h6); have O6 := hid (Own.past O5.out g6 F5.out.b1 (by decide)); have q1 : w6.cell? ⟨w.heap.size + 1, 1, none⟩ = some (.slice (some ⟨g, 0, none⟩) l.length cap2) := (by rw [cell_of_row _ _ _ _ _ _ h6]; rfl); clear g6 h6)
            | fail)
          refine (delete_walk l j _ w6 O6.out hk hn).mono ?_
          rintro e w7 ⟨v7, rfl, hown7, hst7⟩
          generalize (l.take j ++ l.drop (j + 1)).length = m at hown7
          obtain ⟨ao7, cap7, rfl, _, _⟩ := (Sl.of_own hown7).shape
          have F7 := hid (F6.out.step hst7.1 (fun q hq => by simp [Value.ownBlock] at hq; have := HG4.out; omega))
          have hdel : l.take j ++ l.drop (j + 1) = del n l := by rw [← HKK.out]; exact erase_del HA.out HLK.out
          rw [hdel] at hown7
          have O7 := hid hown7
          clear q1 hown7 hst7 hdel z2
          have a0 : w7.cell? ⟨w.heap.size + 1, 0, none⟩ = some (.int .i64 next) := by rw [cell_of_row _ _ _ _ _ _ F7.out.b1]; rfl
          have a1 : w7.cell? ⟨w.heap.size + 1, 1, none⟩ = some (.slice (some ⟨g, 0, none⟩) l.length cap2) := by rw [cell_of_row _ _ _ _ _ _ F7.out.b1]; rfl
          have a2 : w7.cell? ⟨w.heap.size + 1 + 1, 0, none⟩ = some (.int .i64 0) := by rw [cell_of_row _ _ _ _ _ _ F7.out.b2]; rfl
          have f0 : w7.frozen? ⟨w.heap.size + 1, 0, none⟩ = false := frozen_of_row _ _ _ _ _ F7.out.b1
          have f1 : w7.frozen? ⟨w.heap.size + 1, 1, none⟩ = false := frozen_of_row _ _ _ _ _ F7.out.b1
          have f2 : w7.frozen? ⟨w.heap.size + 1 + 1, 0, none⟩ = false := frozen_of_row _ _ _ _ _ F7.out.b2
          go_wp2_with fail
          refine leaves_cons (f := 40) (args := #[.pointer (some ⟨w.heap.size + 1, 0, none⟩), .pointer (some ⟨w.heap.size + 1 + 1, 0, none⟩)]) (by simp) (by simp [go_sem]) ?_
          refine (recRelease_walk _ _ _).mono ?_
          rintro e u' w'' ⟨rfl, rfl, rfl⟩
          have g8 := grown_setCell w7 ⟨w.heap.size + 1, 1, none⟩ (.slice ao7 m cap7)
          have F8 := F7.out.s1 (A' := [.int .i64 next, .slice ao7 m cap7]) g8 (by simpa using heap_setCell_same w7 (w.heap.size + 1) 1 _ 24 _ F7.out.b1)
          have O8 := Own.past O7.out g8 F7.out.b1 (by decide)
          have FZ := EF.fin24 F8 (.int .i64 next) (.slice ao7 m cap7) (.int .i64 0)
          exact ⟨_, results2 rfl rfl rfl (tyT _ _ _ _) (tyE _) FZ.1.b1 FZ.1.b2, by rw [HE.out]; exact ⟨_, rfl, Own.rd (FZ.2 O8), FZ.1.g⟩⟩
        · have dt : (x.token != k) = true := by simp [ht]
          have HT := hid ht
          clear ht
          have hr : r = (.zero, 102) := HRR.out.trans (rel_exp1 HOK.out HLK.out (fun h => HT.out h.2))
          have HE := hid hr
          clear hr
          have a0 : w2.cell? ⟨w.heap.size + 1, 0, none⟩ = some (.int .i64 0) := by rw [cell_of_row _ _ _ _ _ _ F2.out.b1]; rfl
          have a1 : w2.cell? ⟨w.heap.size + 1, 1, none⟩ = some (.slice none 0 0) := by rw [cell_of_row _ _ _ _ _ _ F2.out.b1]; rfl
          have a2 : w2.cell? ⟨w.heap.size + 1 + 1, 0, none⟩ = some (.int .i64 0) := by rw [cell_of_row _ _ _ _ _ _ F2.out.b2]; rfl
          have f0 : w2.frozen? ⟨w.heap.size + 1, 0, none⟩ = false := frozen_of_row _ _ _ _ _ F2.out.b1
          have f1 : w2.frozen? ⟨w.heap.size + 1, 1, none⟩ = false := frozen_of_row _ _ _ _ _ F2.out.b1
          have f2 : w2.frozen? ⟨w.heap.size + 1 + 1, 0, none⟩ = false := frozen_of_row _ _ _ _ _ F2.out.b2
          go_wp2
          refine leaves_cons (f := 40) (args := #[.pointer (some ⟨w.heap.size + 1, 0, none⟩), .pointer (some ⟨w.heap.size + 1 + 1, 0, none⟩)]) (by simp) (by simp [go_sem]) ?_
          refine (recRelease_walk _ _ _).mono ?_
          rintro e u' w'' ⟨rfl, rfl, rfl⟩
          have FZ := (EF.fin24 F2.out (.int .i64 0) (.slice none 0 0) (.int .i64 102)).1
          exact ⟨_, results2 rfl rfl rfl (tyT _ _ _ _) (tyE _) FZ.b1 FZ.b2, by rw [HE.out]; exact ⟨.slice none 0 0, rfl, Sl.nil _ _, FZ.g⟩⟩
      · have dh : (x.holder != h) = true := by simp [hh]
        have HH := hid hh
        clear hh
        have hr : r = (.zero, 102) := HRR.out.trans (rel_exp1 HOK.out HLK.out (fun h => HH.out h.1))
        have HE := hid hr
        clear hr
        have a0 : w2.cell? ⟨w.heap.size + 1, 0, none⟩ = some (.int .i64 0) := by rw [cell_of_row _ _ _ _ _ _ F2.out.b1]; rfl
        have a1 : w2.cell? ⟨w.heap.size + 1, 1, none⟩ = some (.slice none 0 0) := by rw [cell_of_row _ _ _ _ _ _ F2.out.b1]; rfl
        have a2 : w2.cell? ⟨w.heap.size + 1 + 1, 0, none⟩ = some (.int .i64 0) := by rw [cell_of_row _ _ _ _ _ _ F2.out.b2]; rfl
        have f0 : w2.frozen? ⟨w.heap.size + 1, 0, none⟩ = false := frozen_of_row _ _ _ _ _ F2.out.b1
        have f1 : w2.frozen? ⟨w.heap.size + 1, 1, none⟩ = false := frozen_of_row _ _ _ _ _ F2.out.b1
        have f2 : w2.frozen? ⟨w.heap.size + 1 + 1, 0, none⟩ = false := frozen_of_row _ _ _ _ _ F2.out.b2
        go_wp2
        refine leaves_cons (f := 40) (args := #[.pointer (some ⟨w.heap.size + 1, 0, none⟩), .pointer (some ⟨w.heap.size + 1 + 1, 0, none⟩)]) (by simp) (by simp [go_sem]) ?_
        refine (recRelease_walk _ _ _).mono ?_
        rintro e u' w'' ⟨rfl, rfl, rfl⟩
        have FZ := (EF.fin24 F2.out (.int .i64 0) (.slice none 0 0) (.int .i64 102)).1
        exact ⟨_, results2 rfl rfl rfl (tyT _ _ _ _) (tyE _) FZ.b1 FZ.b2, by rw [HE.out]; exact ⟨.slice none 0 0, rfl, Sl.nil _ _, FZ.g⟩⟩
end Go.Proofs.Ytafippjpaakonaa
