/- Key trees: find of the reference. -/
import Derived.Test.YteakoleceoclkaaK10
namespace Go.Proofs.Yteakoleceoclkaa
open Go.RowKit Go.Shelf
set_option linter.unusedSimpArgs false
set_option linter.unusedVariables false
attribute [local go_sem] Oper.semAt_some

/-- the number of the first node that covers an address, or -1 -/
def fndI (a : Int) (l : List Nd) : Int := match l.findIdx? (fun n => cov n a) with | some i => i | none => -1
theorem fndI_some {a : Int} {l : List Nd} {k : Nat} (hk : k < l.length) (h : ∀ j (hj : j < k), cov (l[j]'(by omega)) a = false) (hc : cov l[k] a = true) : fndI a l = k := by
  unfold fndI
  rw [show l.findIdx? (fun n => cov n a) = some k from List.findIdx?_eq_some_iff_getElem.2 ⟨hk, hc, fun j hj => by rw [h j hj]; simp⟩]
theorem fndI_none {a : Int} {l : List Nd} (h : ∀ j (hj : j < l.length), cov l[j] a = false) : fndI a l = -1 := by
  unfold fndI
  rw [show l.findIdx? (fun n => cov n a) = none from List.findIdx?_eq_none_iff.2 fun x hx => by
    obtain ⟨j, hj, rfl⟩ := List.getElem_of_mem hx
    exact h j hj]
set_option maxRecDepth 100000 in
set_option maxHeartbeats 4000000 in
theorem rfind_walk (l : List NdK) (s : Value) (a : Int) (w : World) (hR : RdL w s l) (hv : ∀ n ∈ l, 0 ≤ n.1.d ∧ n.1.d ≤ 34) (ha : 0 ≤ a ∧ a < 17179869184) :
    Calls Try.prog 58 #[.agg #[s], .int .i64 a] w fun e w' => e = .returned (.int .i64 (fndI a (l.map (·.1)))) ∧ w.grownBy w' none := by
  obtain ⟨ao, cap, rfl, p1, p2⟩ := hR.shape
  have HR := hid hR
  obtain ⟨gl, hgl⟩ : ∃ v, v = fndI a (l.map (·.1)) := ⟨_, rfl⟩
  rw [← hgl]
  have HV := hid hgl
  obtain ⟨m, hm⟩ : ∃ m, m = l.length := ⟨_, rfl⟩
  have hm0 : m ≤ 1099511627776 := by rw [hm]; exact hR.2.2
  rw [← hm] at HR p1 ⊢
  have HM := hid hm
  have HAB := hid ha
  have HVD := hid hv
  obtain ⟨w1, hw1⟩ : ∃ x, x = w.alloc (.cells #[.slice ao m cap] 34) := ⟨_, rfl⟩
  have HG1 := hid (show w.grownBy w1 none by rw [hw1]; exact World.grownBy_alloc _ _ _)
  have c0 : w1.cell? ⟨w.heap.size, 0, none⟩ = some (.slice ao m cap) := by rw [hw1, cell_of_row _ _ _ _ _ _ (World.alloc_heap_new w _)]; rfl
  have C0 := hid c0
  have HG0 := hid (World.grownBy.refl w1 none)
  have hF : ∀ j (hj : j < 0), ∀ (h : j < l.length), cov (l[j]'h).1 a = false := fun j hj => absurd hj (by omega)
  have HF := hid hF
  clear hR hgl hm ha hv hF c0
  go_enter Try.func58, Try.ntmps58
  go_wp2
  rw [← hw1]
  clear hw1
  go_loopw [5] (fun i wr => ∃ k : Nat, k ≤ m ∧ i = .int .i64 k ∧ Hid (w1.grownBy wr none) ∧ Hid (∀ j (hj : j < k), ∀ (h : j < l.length), cov (l[j]'h).1 a = false)) (fun i _ => (m - intOf i).toNat)
  case atStart => exact ⟨0, by omega, rfl, HG0, HF⟩
  case round =>
    clear HF HG0
    obtain ⟨k, hk, rfl, HG, HF⟩ := hrel
    have c0 := HG.out.cell C0.out (by simp)
    have y0 := block_lt_of_cell c0
    by_cases hlt : k < m
    · have hkl : k < l.length := by rw [← HM.out]; exact hlt
      have hsr := (HR.out.kn HG1.out).kn HG.out
      obtain ⟨b, off, rfl, hrg⟩ := hsr.1.range (i := k) (by simpa using hkl)
      have HX := hid (show (l.map (·.1))[k]'(by simpa using hkl) = (l[k]).1 by simp)
      rw [HX.out] at hrg
      have HRG := hid hrg
      have HKL := hid hkl
      have HDB := HVD.out l[k] (List.getElem_mem hkl)
      have HNK := hid (l[k]).2
      have HS1 := hid (show cov (l[k]).1 a = true → gl = k from fun h => by
        rw [HV.out]
        exact fndI_some (by simpa using hkl) (fun j hj => by rw [List.getElem_map]; exact HF.out j hj (by omega)) (by rw [List.getElem_map]; exact h))
      have HS2 := hid (show cov (l[k]).1 a = false → ∀ j (hj : j < k + 1), ∀ (h : j < l.length), cov (l[j]'h).1 a = false from fun h j hj hl => by
        by_cases e : j = k
        · subst e; exact h
        · exact HF.out j (by omega) hl)
      generalize l[k] = x at *
      have TN := hid (tyN x.1 HNK.out.1.1)
      have i0 : (0 : Int) ≤ (k : Int) := by omega
      have i1 : (k : Int) < (m : Int) := by omega
      clear hsr hrg HX hkl
      go_wp2_with (first
        | (refine wpList_loadAt rfl 91 (.tmp 16) rfl rfl TN.out HRG.out ?_)
        | fail)
      refine (covers_walk x.1 a HDB HAB.out _).mono ?_
      rintro e w4 ⟨rfl, g4⟩
      have G4 := hid (grown_trans HG.out g4)
      clear g4
      by_cases hc : cov x.1 a = true
      · have HE := hid (HS1.out hc)
        simp only [hc]
        go_wp2
        go_ret
        exact ⟨by rw [HE.out]; rfl, grown_trans HG1.out G4.out⟩
      · simp only [Bool.not_eq_true] at hc
        have HE := hid (HS2.out hc)
        simp only [hc]
        go_wp2
        go_roundw
        case rel => exact ⟨k + 1, by omega, by go_num, G4, HE⟩
        case measure => simp [intOf]; omega
    · obtain rfl : k = m := by omega
      have HE := hid (show gl = -1 by
        rw [HV.out]
        exact fndI_none (fun j hj => by rw [List.getElem_map]; rw [List.length_map] at hj; exact HF.out j (by rw [HM.out]; exact hj) hj))
      go_wp2
      go_ret
      exact ⟨by rw [HE.out]; rfl, grown_trans HG1.out HG.out⟩
end Go.Proofs.Yteakoleceoclkaa
