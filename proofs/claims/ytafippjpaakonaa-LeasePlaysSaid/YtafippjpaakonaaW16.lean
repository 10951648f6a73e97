/- Leases: New; the reference's small functions. -/
import Derived.Test.YtafippjpaakonaaW11
import Derived.Test.YtafippjpaakonaaB3
namespace Go.Proofs.Ytafippjpaakonaa
open Go.RowKit
set_option linter.unusedSimpArgs false
set_option linter.unusedVariables false

theorem zeroT (w : World) : (zeroValue 24).run Try.prog w = .ok (tval 0 nilS) w := rfl
set_option maxRecDepth 100000 in
theorem new_walk (w : World) : Calls Try.prog 10 #[] w fun e w' => e = .returned (tval 1 nilS) ∧ w.grownBy w' none := by
  go_enter Try.func10, Try.ntmps10
  go_wp2
  exact ret_cell (b := w.heap.size) (cs := [.int .i64 1, nilS]) rfl rfl (tyT 1 none 0 0) (u := 24) (fr := (0, 0)) (heap_at rfl) rfl ⟨rfl, World.grownBy_alloc _ _ _⟩
set_option maxRecDepth 100000 in
theorem rnew_walk (w : World) : Calls Try.prog 19 #[] w fun e w' => e = .returned (tval 1 nilS) ∧ w.grownBy w' none := by
  go_enter Try.func19, Try.ntmps19
  go_wp2
  exact ret_cell (b := w.heap.size) (cs := [.int .i64 1, nilS]) rfl rfl (tyT 1 none 0 0) (u := 24) (fr := (0, 0)) (heap_at rfl) rfl ⟨rfl, World.grownBy_alloc _ _ _⟩
set_option maxRecDepth 100000 in
theorem rtimely_walk (a b : Int) (w : World) : Calls Try.prog 49 #[.int .i64 a, .int .i64 b] w fun e w' => e = .returned (.bool (timely a b)) ∧ w' = w := by
  unfold timely Top
  by_cases h1 : -1099511627776 ≤ a <;> by_cases h2 : a ≤ 1099511627776 <;> by_cases h3 : 1 ≤ b <;> by_cases h4 : b ≤ 1099511627776
  all_goals
    go_enter Try.func49, Try.ntmps49
    go_wp2
    go_ret
    simp [h1, h2, h3, h4]

theorem look_first {n : Int} : ∀ {l : List Ls} {k : Nat}, k < l.length → (∀ j, j < k → (l.getD j Ls.zero).name ≠ n) → (l.getD k Ls.zero).name = n → look n l = some (l.getD k Ls.zero)
  | [], k, h, _, _ => by simp at h
  | x :: l, 0, _, _, h => by
    simp only [List.getD_cons_zero] at h ⊢
    simp [look, h]
  | x :: l, k + 1, hk, hj, h => by
    have h0 := hj 0 (by omega)
    simp only [List.getD_cons_zero, List.getD_cons_succ] at h0 h ⊢
    have := look_first (n := n) (l := l) (k := k) (by simpa using hk) (fun j h => by simpa using hj (j + 1) (by omega)) h
    unfold look at this ⊢
    rw [List.find?_cons, decide_eq_false h0]
    exact this
theorem look_nowhere {n : Int} {l : List Ls} (h : ∀ j, j < l.length → (l.getD j Ls.zero).name ≠ n) : look n l = none :=
  List.find?_eq_none.2 fun x hx => by
    obtain ⟨j, hj, rfl⟩ := List.mem_iff_getElem.1 hx
    have := h j hj
    rw [getD_of hj] at this
    simpa using this
/-- what the reference's at says -/
def AtSays (n : Int) (l : List Ls) (i : Int) : Prop := (look n l = none ∧ i = -1) ∨ ∃ k : Nat, look n l = some (l.getD k Ls.zero) ∧ i = (k : Int) ∧ k < l.length
set_option maxRecDepth 100000 in
set_option maxHeartbeats 1000000 in
theorem rat_walk (l : List Ls) (next n : Int) (s : Value) (w : World) (hR : Rd w s l) (hn : l.length ≤ 1099511627776) :
    Calls Try.prog 42 #[tval next s, .int .i64 n] w fun e w' => ∃ i, e = .returned (.int .i64 i) ∧ AtSays n l i ∧ w.grownBy w' none := by
  obtain ⟨ao, cap, rfl, hc1, hc2⟩ := Sl.shape hR
  have HR := hid hR
  clear hR
  unfold tval
  have ga := World.grownBy_alloc w (.cells #[.int .i64 next, .slice ao l.length cap] 24) none
  have hb0 := heap_at (w := w) (o := .cells #[.int .i64 next, .slice ao l.length cap] 24) rfl
  have GA := hid ga
  have HB := hid hb0
  clear ga hb0
  go_enter Try.func42, Try.ntmps42
  go_wp2
  go_loopw [5] (fun i wr => ∃ k : Nat, k ≤ l.length ∧ i = .int .i64 k ∧ (∀ j, j < k → (l.getD j Ls.zero).name ≠ n) ∧ w.grownBy wr none ∧ wr.heap[w.heap.size]? = some (.cells #[.int .i64 next, .slice ao l.length cap] 24 (0, 0))) (fun i _ => l.length - (intOf i).toNat)
  case atStart => exact ⟨0, by omega, rfl, fun j hj => by omega, GA.out, HB.out⟩
  case round =>
    obtain ⟨k, hk, rfl, hj, hg, hb⟩ := hrel
    have HJ := hid hj
    have HG := hid hg
    have HBk := hid hb
    clear hj hg hb
    by_cases hlt : k < l.length
    · obtain ⟨b, off, rfl⟩ := Rd.base HR.out (by omega)
      have hr := Rd.cellD (Sl.kn HR.out HG.out) k hlt
      have c1 : wr.cell? ⟨w.heap.size, 1, none⟩ = some (.slice (some ⟨b, off, none⟩) l.length cap) := by rw [cell_of_row _ _ _ _ _ _ HBk.out]; rfl
      have d0 : wr.cell? ⟨b, off + k * 4, none⟩ = some (.int .i64 (l.getD k Ls.zero).name) := hr 0 _ rfl
      have hi1 : (0 : Int) ≤ (k : Int) := by omega
      have hi2 : (k : Int) < (l.length : Int) := by omega
      clear hr
      have HT := hid (look_first (n := n) (k := k) (l := l) hlt HJ.out)
      by_cases he : (l.getD k Ls.zero).name = n
      · have HLK := hid (HT.out he)
        rw [he] at d0
        clear he
        go_wp2
        go_ret
        exact ⟨_, rfl, .inr ⟨k, HLK.out, rfl, hlt⟩, HG.out⟩
      · have HE := hid he
        generalize hx : (l.getD k Ls.zero).name = x at *
        have HX := hid hx
        clear hx
        go_wp2
        go_roundw
        case rel => exact ⟨k + 1, by omega, by go_num, fun j hj => by
          rcases Nat.lt_succ_iff_lt_or_eq.1 hj with h | rfl
          · exact HJ.out j h
          · rw [HX.out]; exact HE.out, HG.out, HBk.out⟩
        case measure => simp [intOf]; omega
    · obtain rfl : k = l.length := by omega
      have HALL := hid (look_nowhere HJ.out)
      have c1 : wr.cell? ⟨w.heap.size, 1, none⟩ = some (.slice ao l.length cap) := by rw [cell_of_row _ _ _ _ _ _ HBk.out]; rfl
      go_wp2
      go_ret
      exact ⟨_, rfl, .inl ⟨HALL.out, rfl⟩, HG.out⟩
end Go.Proofs.Ytafippjpaakonaa
