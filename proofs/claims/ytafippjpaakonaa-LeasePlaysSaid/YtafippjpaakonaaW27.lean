/- Leases: the operations as the laws call them. (printed by gen_w27.py) -/
import Derived.Test.YtafippjpaakonaaW11
import Derived.Test.YtafippjpaakonaaW12
import Derived.Test.YtafippjpaakonaaW13
import Derived.Test.YtafippjpaakonaaW14
import Derived.Test.YtafippjpaakonaaW15
import Derived.Test.YtafippjpaakonaaW21
import Derived.Test.YtafippjpaakonaaW22
import Derived.Test.YtafippjpaakonaaW23
import Derived.Test.YtafippjpaakonaaW24
import Derived.Test.YtafippjpaakonaaW25
import Derived.Test.YtafippjpaakonaaW26
namespace Go.Proofs.Ytafippjpaakonaa
open Go.RowKit
set_option linter.unusedSimpArgs false
set_option linter.unusedVariables false

theorem acqP_call {t : Tb} {r : Tb × Int × Int} {n h now d : Int} {s : Value} {w0 w : World} (he : acq cds t n h now d = r) (hR : Rd w0 s t.ls) (hg : w0.grownBy w none) (hn : t.ls.length ≤ 1000000) :
    Calls Try.prog 11 #[.agg #[.int .i64 t.next, s], .int .i64 n, .int .i64 h, .int .i64 now, .int .i64 d] w fun e w' => ∃ ao k cap, e = .returned (.tuple #[.agg #[.int .i64 r.1.next, .slice ao k cap], .int .i64 r.2.1, .int .i64 r.2.2]) ∧ Hid (Rd w' (.slice ao k cap) r.1.ls ∧ w0.grownBy w' none) := by
  subst he
  refine (acquire_walk t n h now d s w (Sl.kn hR hg) hn).mono ?_
  rintro e w' ⟨s', rfl, ho, hf⟩
  obtain ⟨ao, cap, rfl, _, _⟩ := Sl.shape ho
  exact ⟨ao, _, cap, rfl, ho, grown_trans hg hf⟩
theorem acqR_call {t : Tb} {r : Tb × Int × Int} {n h now d : Int} {s : Value} {w0 w : World} (he : acq cds t n h now d = r) (hR : Rd w0 s t.ls) (hg : w0.grownBy w none) (hn : t.ls.length ≤ 1000000) :
    Calls Try.prog 34 #[.agg #[.int .i64 t.next, s], .int .i64 n, .int .i64 h, .int .i64 now, .int .i64 d] w fun e w' => ∃ ao k cap, e = .returned (.tuple #[.agg #[.int .i64 r.1.next, .slice ao k cap], .int .i64 r.2.1, .int .i64 r.2.2]) ∧ Hid (Rd w' (.slice ao k cap) r.1.ls ∧ w0.grownBy w' none) := by
  subst he
  refine (racquire_walk t n h now d s w (Sl.kn hR hg) hn).mono ?_
  rintro e w' ⟨s', rfl, ho, hf⟩
  obtain ⟨ao, cap, rfl, _, _⟩ := Sl.shape ho
  exact ⟨ao, _, cap, rfl, ho, grown_trans hg hf⟩
theorem renP_call {t : Tb} {r : Tb × Int} {n h tk now d : Int} {s : Value} {w0 w : World} (he : ren cds t n h tk now d = r) (hR : Rd w0 s t.ls) (hg : w0.grownBy w none) (hn : t.ls.length ≤ 1000000) :
    Calls Try.prog 17 #[.agg #[.int .i64 t.next, s], .int .i64 n, .int .i64 h, .int .i64 tk, .int .i64 now, .int .i64 d] w fun e w' => ∃ ao k cap, e = .returned (.tuple #[.agg #[.int .i64 r.1.next, .slice ao k cap], .int .i64 r.2]) ∧ Hid (Rd w' (.slice ao k cap) r.1.ls ∧ w0.grownBy w' none) := by
  subst he
  refine (renew_walk t n h tk now d s w (Sl.kn hR hg) hn).mono ?_
  rintro e w' ⟨s', rfl, ho, hf⟩
  obtain ⟨ao, cap, rfl, _, _⟩ := Sl.shape ho
  exact ⟨ao, _, cap, rfl, ho, grown_trans hg hf⟩
theorem renR_call {t : Tb} {r : Tb × Int} {n h tk now d : Int} {s : Value} {w0 w : World} (he : ren cds t n h tk now d = r) (hR : Rd w0 s t.ls) (hg : w0.grownBy w none) (hn : t.ls.length ≤ 1000000) :
    Calls Try.prog 35 #[.agg #[.int .i64 t.next, s], .int .i64 n, .int .i64 h, .int .i64 tk, .int .i64 now, .int .i64 d] w fun e w' => ∃ ao k cap, e = .returned (.tuple #[.agg #[.int .i64 r.1.next, .slice ao k cap], .int .i64 r.2]) ∧ Hid (Rd w' (.slice ao k cap) r.1.ls ∧ w0.grownBy w' none) := by
  subst he
  refine (rrenew_walk t n h tk now d s w (Sl.kn hR hg) hn).mono ?_
  rintro e w' ⟨s', rfl, ho, hf⟩
  obtain ⟨ao, cap, rfl, _, _⟩ := Sl.shape ho
  exact ⟨ao, _, cap, rfl, ho, grown_trans hg hf⟩
theorem relP_call {t : Tb} {r : Tb × Int} {n h tk : Int} {s : Value} {w0 w : World} (he : rel cds t n h tk = r) (hR : Rd w0 s t.ls) (hg : w0.grownBy w none) (hn : t.ls.length ≤ 1000000) :
    Calls Try.prog 18 #[.agg #[.int .i64 t.next, s], .int .i64 n, .int .i64 h, .int .i64 tk] w fun e w' => ∃ ao k cap, e = .returned (.tuple #[.agg #[.int .i64 r.1.next, .slice ao k cap], .int .i64 r.2]) ∧ Hid (Rd w' (.slice ao k cap) r.1.ls ∧ w0.grownBy w' none) := by
  subst he
  refine (release_walk t n h tk s w (Sl.kn hR hg) hn).mono ?_
  rintro e w' ⟨s', rfl, ho, hf⟩
  obtain ⟨ao, cap, rfl, _, _⟩ := Sl.shape ho
  exact ⟨ao, _, cap, rfl, ho, grown_trans hg hf⟩
theorem relR_call {t : Tb} {r : Tb × Int} {n h tk : Int} {s : Value} {w0 w : World} (he : rel cds t n h tk = r) (hR : Rd w0 s t.ls) (hg : w0.grownBy w none) (hn : t.ls.length ≤ 1000000) :
    Calls Try.prog 36 #[.agg #[.int .i64 t.next, s], .int .i64 n, .int .i64 h, .int .i64 tk] w fun e w' => ∃ ao k cap, e = .returned (.tuple #[.agg #[.int .i64 r.1.next, .slice ao k cap], .int .i64 r.2]) ∧ Hid (Rd w' (.slice ao k cap) r.1.ls ∧ w0.grownBy w' none) := by
  subst he
  refine (rrelease_walk t n h tk s w (Sl.kn hR hg) hn).mono ?_
  rintro e w' ⟨s', rfl, ho, hf⟩
  obtain ⟨ao, cap, rfl, _, _⟩ := Sl.shape ho
  exact ⟨ao, _, cap, rfl, ho, grown_trans hg hf⟩
theorem expP_call {t : Tb} {r : Tb} {now : Int} {s : Value} {w0 w : World} (he : expd t now = r) (hR : Rd w0 s t.ls) (hg : w0.grownBy w none) (hn : t.ls.length ≤ 1000000) :
    Calls Try.prog 12 #[.agg #[.int .i64 t.next, s], .int .i64 now] w fun e w' => ∃ ao k cap, e = .returned (.agg #[.int .i64 r.next, .slice ao k cap]) ∧ Hid (Rd w' (.slice ao k cap) r.ls ∧ w0.grownBy w' none) := by
  subst he
  refine (expire_walk t now s w (Sl.kn hR hg) hn).mono ?_
  rintro e w' ⟨s', rfl, ho, hf⟩
  obtain ⟨ao, cap, rfl, _, _⟩ := Sl.shape ho
  exact ⟨ao, _, cap, rfl, ho, grown_trans hg hf⟩
theorem expR_call {t : Tb} {r : Tb} {now : Int} {s : Value} {w0 w : World} (he : expd t now = r) (hR : Rd w0 s t.ls) (hg : w0.grownBy w none) (hn : t.ls.length ≤ 1000000) :
    Calls Try.prog 37 #[.agg #[.int .i64 t.next, s], .int .i64 now] w fun e w' => ∃ ao k cap, e = .returned (.agg #[.int .i64 r.next, .slice ao k cap]) ∧ Hid (Rd w' (.slice ao k cap) r.ls ∧ w0.grownBy w' none) := by
  subst he
  refine (rexpire_walk t now s w (Sl.kn hR hg) hn).mono ?_
  rintro e w' ⟨s', rfl, ho, hf⟩
  obtain ⟨ao, cap, rfl, _, _⟩ := Sl.shape ho
  exact ⟨ao, _, cap, rfl, ho, grown_trans hg hf⟩
theorem fndP_call {t : Tb} {r : Ls × Bool} {n now : Int} {s : Value} {w0 w : World} (he : fnd t n now = r) (hR : Rd w0 s t.ls) (hg : w0.grownBy w none) (hn : t.ls.length ≤ 1000000) :
    Calls Try.prog 15 #[.agg #[.int .i64 t.next, s], .int .i64 n, .int .i64 now] w fun e w' => e = .returned (.tuple #[.agg #[.int .i64 r.1.name, .int .i64 r.1.holder, .int .i64 r.1.token, .int .i64 r.1.till], .bool r.2]) ∧ w0.grownBy w' none := by
  subst he
  refine (find_walk t n now s w (Sl.kn hR hg) hn).mono ?_
  rintro e w' ⟨rfl, hf⟩
  exact ⟨rfl, grown_trans hg hf⟩
theorem fndR_call {t : Tb} {r : Ls × Bool} {n now : Int} {s : Value} {w0 w : World} (he : fnd t n now = r) (hR : Rd w0 s t.ls) (hg : w0.grownBy w none) (hn : t.ls.length ≤ 1000000) :
    Calls Try.prog 22 #[.agg #[.int .i64 t.next, s], .int .i64 n, .int .i64 now] w fun e w' => e = .returned (.tuple #[.agg #[.int .i64 r.1.name, .int .i64 r.1.holder, .int .i64 r.1.token, .int .i64 r.1.till], .bool r.2]) ∧ w0.grownBy w' none := by
  subst he
  refine (rfind_walk t n now s w (Sl.kn hR hg) hn).mono ?_
  rintro e w' ⟨rfl, hf⟩
  exact ⟨rfl, grown_trans hg hf⟩
theorem vldP_call {t : Tb} {r : Bool} {s : Value} {w0 w : World} (he : t.ok = r) (hR : Rd w0 s t.ls) (hg : w0.grownBy w none) (hn : t.ls.length ≤ 1000000) :
    Calls Try.prog 16 #[.agg #[.int .i64 t.next, s]] w fun e w' => e = .returned (.bool r) ∧ w0.grownBy w' none := by
  subst he
  refine (valid_walk t.ls t.next s w (Sl.kn hR hg) (by omega)).mono ?_
  rintro e w' ⟨rfl, hf⟩
  exact ⟨rfl, grown_trans hg hf⟩
theorem vldR_call {t : Tb} {r : Bool} {s : Value} {w0 w : World} (he : t.ok = r) (hR : Rd w0 s t.ls) (hg : w0.grownBy w none) (hn : t.ls.length ≤ 1000000) :
    Calls Try.prog 23 #[.agg #[.int .i64 t.next, s]] w fun e w' => e = .returned (.bool r) ∧ w0.grownBy w' none := by
  subst he
  refine (rvalid_walk t.ls t.next s w (Sl.kn hR hg) (by omega)).mono ?_
  rintro e w' ⟨rfl, hf⟩
  exact ⟨rfl, grown_trans hg hf⟩
theorem sam_call {t : Tb} {s1 s2 : Value} {w0 w : World} (hR : Rd w0 s1 t.ls) (hS : Rd w0 s2 t.ls) (hg : w0.grownBy w none) (hn : t.ls.length ≤ 1000000) :
    Calls Try.prog 20 #[.agg #[.int .i64 t.next, s1], .agg #[.int .i64 t.next, s2]] w fun e w' => e = .returned (.bool true) ∧ w0.grownBy w' none := by
  refine (same_walk t.ls t.next s1 s2 w (Sl.kn hR hg) (Sl.kn hS hg) (by omega)).mono ?_
  rintro e w' ⟨rfl, hf⟩
  exact ⟨rfl, grown_trans hg hf⟩
theorem awk1 : acq cds ⟨1, []⟩ 5 1 0 10 = (⟨2, [⟨5, 1, 1, 10⟩]⟩, 1, 0) := by decide
theorem awk2 : acq cds ⟨2, [⟨5, 1, 1, 10⟩]⟩ 5 2 9 10 = (.zero, 0, 11) := by decide
theorem awk3 : acq cds ⟨2, [⟨5, 1, 1, 10⟩]⟩ 5 2 10 10 = (⟨3, [⟨5, 2, 2, 20⟩]⟩, 2, 0) := by decide
set_option maxRecDepth 100000 in
set_option maxHeartbeats 2000000 in
/-- what every law asks at its end -/
theorem awake_walk (w : World) : Calls Try.prog 13 #[] w fun e w' => e = .returned (.bool true) ∧ w.grownBy w' none := by
  go_enter Try.func13, Try.ntmps13
  go_wp2_with fail
  refine (new_walk w).mono ?_
  rintro e w1 ⟨he, g1⟩
  unfold tval at he
  subst he
  have G1 := hid g1
  clear g1
  go_wp2_with fail
  refine (acqP_call awk1 (Sl.nil w1 4) (World.grownBy.refl _ _) (by decide)).mono ?_
  rintro e w2 ⟨ao2, k2, cap2, rfl, M2⟩
  obtain ⟨w3, hw3⟩ : ∃ w3, w3 = w2.alloc (.cells #[.int .i64 2, .slice ao2 k2 cap2] 24) := ⟨_, rfl⟩
  have c0 : w3.cell? ⟨w2.heap.size, 0, none⟩ = some (.int .i64 2) := by rw [hw3, cell_of_row _ _ _ _ _ _ (heap_at rfl)]; rfl
  have c1 : w3.cell? ⟨w2.heap.size, 1, none⟩ = some (.slice ao2 k2 cap2) := by rw [hw3, cell_of_row _ _ _ _ _ _ (heap_at rfl)]; rfl
  have M3 := hid (show Rd w3 (.slice ao2 k2 cap2) [⟨5, 1, 1, 10⟩] ∧ w.grownBy w3 none from by rw [hw3]; exact ⟨Sl.kn M2.out.1 (World.grownBy_alloc _ _ _), grown_trans G1.out (grown_trans M2.out.2 (World.grownBy_alloc _ _ _))⟩)
  go_wp2_with fail
  rw [← hw3]
  refine (acqP_call awk2 M3.out.1 (World.grownBy.refl _ _) (by decide)).mono ?_
  rintro e w4 ⟨ao4, k4, cap4, rfl, M4⟩
  replace c0 := grown_cell M4.out.2 c0 (by simp)
  replace c1 := grown_cell M4.out.2 c1 (by simp)
  have z0 := block_lt_of_cell c0
  have R4 := hid (show Rd w4 (.slice ao2 k2 cap2) [⟨5, 1, 1, 10⟩] from Sl.kn M3.out.1 M4.out.2)
  have G4 := hid (show w.grownBy w4 none from grown_trans M3.out.2 M4.out.2)
  go_wp2_with fail
  refine (acqP_call awk3 (w0 := w4) R4.out (World.grownBy_alloc _ _ _) (by decide)).mono ?_
  rintro e w6 ⟨ao6, k6, cap6, rfl, M6⟩
  go_wp2
  go_ret
  exact ⟨rfl, grown_trans G4.out (grown_trans M6.out.2 (World.grownBy_alloc _ _ _))⟩
end Go.Proofs.Ytafippjpaakonaa
