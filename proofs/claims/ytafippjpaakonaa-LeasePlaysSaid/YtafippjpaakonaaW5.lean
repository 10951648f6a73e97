/- Leases: clone. -/
import Derived.Test.YtafippjpaakonaaW4
namespace Go.Proofs.Ytafippjpaakonaa
open Go.RowKit
set_option linter.unusedSimpArgs false
set_option linter.unusedVariables false

set_option maxRecDepth 100000 in
set_option maxHeartbeats 1000000 in
/-- slices.Clone -/
theorem sclone_walk (l : List Ls) (s : Value) (w : World) (hR : Rd w s l) (hn : l.length ≤ 1000000) :
    Calls Try.prog 45 #[s] w fun e w' => ∃ v, e = .returned v ∧ Own w' 38 4 v l.length (l.flatMap lcells) ∧ Fresh w w' v := by
  obtain ⟨ao, cap, rfl, hc1, hc2⟩ := Sl.shape hR
  have hE := @Lib.run_eql_slice_nil Try.prog
  cases ao with
  | none =>
    have hl : l = [] := by
      cases l with
      | nil => rfl
      | cons x l => obtain ⟨b, off, h⟩ := Rd.base hR (by simp); cases h
    subst hl
    obtain ⟨_, ao', cap', hv, _, _, h3, _⟩ := hR
    simp only [Value.slice.injEq] at hv
    obtain ⟨rfl, _, rfl⟩ := hv
    obtain rfl := h3 rfl
    go_enter Try.func45, Try.ntmps45
    go_wp2
    go_ret
    exact ⟨_, rfl, Own.nil _ _ _, Step.refl _ _⟩
  | some a =>
    obtain ⟨b, off, spot⟩ := a
    have HR := hid hR
    clear hR
    have he : Own (w.alloc (.cells #[] 38)) 38 4 (.slice (some ⟨w.heap.size, 0, none⟩) 0 0) 0 [] := World.ownsRow_lit w #[] 0 (Nat.zero_le _) (Nat.zero_le _) rfl
    have hf : Fresh w (w.alloc (.cells #[] 38)) (.slice (some ⟨w.heap.size, 0, none⟩) 0 0) := Fresh.lit _ _ _ _
    have HE := hid he
    have HF := hid hf
    clear he hf
    go_enter Try.func45, Try.ntmps45
    go_wp2_with (at_builtin; go_must (refine wpList_app leaseT rfl _ _ rfl _ _ _ rfl HE.out _ _ _ rfl (Sl.kn HR.out (World.grownBy_alloc _ _ _)) (leases_one l) (by omega) ?_; intro v' w' hown hst))
    go_ret
    simp only [Nat.zero_add, List.nil_append] at hown
    exact ⟨v', rfl, hown, HF.out.trans hst⟩
set_option maxRecDepth 100000 in
set_option maxHeartbeats 1000000 in
theorem clone_walk (l : List Ls) (next : Int) (s : Value) (w : World) (hR : Rd w s l) (hn : l.length ≤ 1000000) :
    Calls Try.prog 29 #[tval next s] w fun e w' => ∃ v, e = .returned (tval next v) ∧ Own w' 38 4 v l.length (l.flatMap lcells) ∧ Fresh w w' v := by
  obtain ⟨ao, cap, rfl, hc1, hc2⟩ := Sl.shape hR
  have HR := hid hR
  clear hR
  unfold tval
  have g0 := World.grownBy_alloc w (.cells #[.int .i64 next, .slice ao l.length cap] 24) none
  have g1 := World.grownBy_alloc (w.alloc (.cells #[.int .i64 next, .slice ao l.length cap] 24)) (.cells #[.int .i64 0, .slice none 0 0] 24) none
  have hb0 := row_of g1 (heap_at (w := w) (o := .cells #[.int .i64 next, .slice ao l.length cap] 24) rfl) (by simp)
  have hb1 := heap_at (w := w.alloc (.cells #[.int .i64 next, .slice ao l.length cap] 24)) (o := .cells #[.int .i64 0, .slice none 0 0] 24) (n := w.heap.size + 1) (by simp)
  have G := hid (grown_trans g0 g1)
  go_enter Try.func29, Try.ntmps29
  go_wp2_with fail
  generalize (w.alloc (.cells #[.int .i64 next, .slice ao l.length cap] 24)).alloc (.cells #[.int .i64 0, .slice none 0 0] 24) = W at *
  clear g0 g1
  refine (sclone_walk l _ _ (Sl.kn HR.out G.out) hn).mono ?_
  rintro e w1 ⟨v, rfl, hown, hf⟩
  have k0 := row_of (Step.none hf) hb0 (by simp)
  have k1 := row_of (Step.none hf) hb1 (by simp)
  obtain ⟨ao2, cap2, rfl, _, _⟩ := (Sl.of_own hown).shape
  have F := hid hf
  have O := hid hown
  have K0 := hid k0
  have K1 := hid k1
  clear hown hf k0 k1 hb0 hb1
  go_wp2_with (first
    | (refine wpList_storeAt rfl 22 (.tmp 6) (.tmp 5) rfl rfl rfl (tyS _ _ _) (C := [.int .i64 next, .slice ao l.length cap]) K0.out (by simp) ?_; intro w2 g2 h2; have G2 := hid g2; have H2 := hid (show w2.heap[w.heap.size]? = some (.cells [Value.int .i64 next, .slice ao2 l.length cap2].toArray 24 (0, 0)) from h2); have K2 := hid (row_of g2 K1.out (by simp)); have O2 := hid (Own.past O.out g2 K0.out (by decide)); clear g2 h2)
    | (refine wpList_loadTY rfl 24 (.tmp 1) rfl rfl (tyT _ _ _ _) H2.out ?_)
    | (refine wpList_storeTYg rfl 24 (.tmp 2) (.tmp 7) rfl rfl rfl (tyT _ _ _ _) K2.out rfl ?_; intro w3 g3 h3)
    | fail)
  have g12 := grown_newR (grown_newR (grown_trans G.out (Step.none F.out)) G2.out (Nat.le_refl _)) g3 (Nat.le_succ _)
  refine ret_cell rfl rfl (tyT _ _ _ _) h3 rfl ⟨.slice ao2 l.length cap2, rfl, Own.past O2.out g3 K2.out (by decide), g12, fun k hk => .inr ?_⟩
  have h8 := F.out.2 k hk
  rcases h8 with h8 | h8
  · simp [Value.ownBlock] at h8
  · exact Nat.le_trans G.out.size h8
end Go.Proofs.Ytafippjpaakonaa
