/- read at int64, ReadInt. -/
import Derived.Test.YtkeiffccllfkpaaReadInt
import Derived.Test.YtkeiffccllfkpaaExtend
namespace Go.Proofs.Ytkeiffccllfkpaa
open Go.RowKit

set_option maxRecDepth 100000 in
theorem clone_walk (v : Value) (xs : List Nat) (w : World) (hv : Sl w 1 v xs.length (bv xs)) (hl : xs.length ≤ 1099511627776) :
    Calls Try.prog 165 #[v] w fun e w' => ∃ v', e = .returned v' ∧ Sl w' 1 v' xs.length (bv xs) ∧ Fresh w w' v' := by
  obtain ⟨ao, cap, rfl, hnc, hcm⟩ := hv.shape
  have hE := @Lib.run_eql_slice_nil Try.prog
  have hown : Own (w.alloc (.cells #[] 5)) 5 1 (.slice (some ⟨w.heap.size, 0, none⟩) 0 0) 0 [] := World.ownsRow_lit w #[] 0 (Nat.zero_le _) (Nat.zero_le _) rfl
  have hv' := hv.kept (World.grownBy_alloc w (.cells #[] 5) none) (by cases h : (Value.slice ao xs.length cap).ownBlock <;> simp)
  cases ao with
  | none =>
    go_enter Try.func165, Try.ntmps165
    go_wp2
    go_ret
    have h0 : xs.length = 0 := by
      obtain ⟨_, ao', cap', h1, h2, h3, h4, _⟩ := hv
      simp only [Value.slice.injEq] at h1
      obtain ⟨rfl, _, rfl⟩ := h1
      have := h4 rfl; omega
    obtain rfl := List.eq_nil_of_length_eq_zero h0
    exact ⟨nilS, rfl, Sl.nil _ _, Step.refl _ _⟩
  | some a =>
    go_enter Try.func165, Try.ntmps165
    go_wp2_with (at_builtin; go_must (refine wpList_app bytesT rfl _ _ rfl _ _ _ rfl hown _ _ _ rfl hv' (bv_cells _) (by omega) ?_; intro v' w' hown' hg'))
    go_ret
    exact ⟨_, rfl, Sl.of_own (by simpa using hown'), (Fresh.lit _ _ _ _).trans hg'⟩
end Go.Proofs.Ytkeiffccllfkpaa
