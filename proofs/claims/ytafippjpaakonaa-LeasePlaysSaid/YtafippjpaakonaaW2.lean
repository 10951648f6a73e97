/- Leases: the search. -/
import Derived.Test.YtafippjpaakonaaW1
namespace Go.Proofs.Ytafippjpaakonaa
open Go.RowKit
set_option linter.unusedSimpArgs false
set_option linter.unusedVariables false

theorem flat_at (l : List Ls) (i j : Nat) (hi : i < l.length) (hj : j < 4) : (l.flatMap lcells)[i * 4 + j]? = (lcells l[i])[j]? := by
  induction l generalizing i with
  | nil => simp at hi
  | cons x l ih =>
    cases i with
    | zero =>
      simp only [List.flatMap_cons, Nat.zero_mul, Nat.zero_add, List.getElem_cons_zero]
      exact List.getElem?_append_left (by simpa [lcells] using hj)
    | succ i =>
      have h4 : (lcells x).length = 4 := rfl
      simp only [List.flatMap_cons, List.getElem_cons_succ]
      rw [List.getElem?_append_right (by omega), ← ih i (by simpa using hi)]
      congr 1
      omega
/-- the cells of a lease in a slice -/
theorem Rd.cell {w : World} {ao : Option Addr} {cap n : Nat} {l : List Ls} (h : Rd w (.slice ao n cap) l) (i : Nat) (hi : i < l.length) :
    ∃ b off, ao = some ⟨b, off, none⟩ ∧ n = l.length ∧ n ≤ cap ∧ w.rangeAt b (off + i * 4) (lcells l[i]) := by
  have hl := lcells_len l
  obtain ⟨b, off, rfl, hc⟩ := Sl.at h (i * 4) (by omega)
  obtain ⟨_, ao', cap', hv, h1, _⟩ := h
  simp only [Value.slice.injEq] at hv
  obtain ⟨_, rfl, rfl⟩ := hv
  refine ⟨b, off, rfl, rfl, h1, fun j v hj => ?_⟩
  have hj4 : j < 4 := (List.getElem?_eq_some_iff.1 hj).1
  have hij : i * 4 + j < (l.flatMap lcells).length := by omega
  rw [Nat.add_assoc, hc (i * 4 + j) hij, ← hj, ← flat_at l i j hi hj4, List.getElem?_eq_getElem hij]
theorem grown_drewN (w : World) (n : Nat) : w.grownBy (w.drewN n) none := ⟨rfl, rfl, rfl, Nat.le_refl _, fun _ _ _ => rfl⟩

set_option maxRecDepth 100000 in
set_option maxHeartbeats 1000000 in
/-- the closure of the search -/
theorem searchFn_walk (l : List Ls) (i : Nat) (next n : Int) (ao : Option Addr) (cap C D : Nat) (w : World) (hi : i < l.length) (hR : Rd w (.slice ao l.length cap) l)
    (hC : w.heap[C]? = some (.cells #[.int .i64 next, .slice ao l.length cap] 24 (0, 0))) (hD : w.cell? ⟨D, 0, none⟩ = some (.int .i64 n)) :
    Calls Try.prog 44 #[.int .i64 i, .pointer (some ⟨C, 0, none⟩), .pointer (some ⟨D, 0, none⟩)] w fun e w' => e = .returned (.bool (decide (n ≤ l[i].name))) ∧ w.grownBy w' none := by
  obtain ⟨b, off, rfl, _, h1, hr⟩ := hR.cell i hi
  have c1 : w.cell? ⟨C, 1, none⟩ = some (.slice (some ⟨b, off, none⟩) l.length cap) := by rw [cell_of_row _ _ _ _ _ _ hC]; rfl
  have c2 : w.cell? ⟨b, off + i * 4, none⟩ = some (.int .i64 l[i].name) := hr 0 _ rfl
  have hi1 : (0 : Int) ≤ (i : Int) := by omega
  have hi2 : (i : Int) < (l.length : Int) := by omega
  clear hr hC hR
  generalize l[i].name = m at *
  go_enter Try.func44, Try.ntmps44
  go_wp2
  go_quiet (fail)
  go_wp2
  go_ret
  exact ⟨rfl, grown_drewN _ _⟩
end Go.Proofs.Ytafippjpaakonaa
