/- Leases: slices.IndexFunc, DeleteFunc, Delete. -/
import Derived.Test.YtafippjpaakonaaW6
namespace Go.Proofs.Ytafippjpaakonaa
open Go.RowKit
set_option linter.unusedSimpArgs false
set_option linter.unusedVariables false

theorem Own.put1 {w w' : World} {g n cap i : Nat} {l : List Ls} {C : List Value} (h : Own w 38 4 (.slice (some ⟨g, 0, none⟩) n cap) n (l.flatMap lcells)) (hi : i < n) (x : Ls)
    (hC : w.heap[g]? = some (.cells C.toArray 38 (0, 0))) (hb : w'.heap[g]? = some (.cells (C.take (i * 4) ++ (lcells x ++ C.drop (i * 4 + (lcells x).length))).toArray 38 (0, 0))) :
    Own w' 38 4 (.slice (some ⟨g, 0, none⟩) n cap) n ((l.set i x).flatMap lcells) := by
  refine h.put hi x fun C' h' => ?_
  rw [hC] at h'
  simp only [Option.some.injEq, Obj.cells.injEq, and_true] at h'
  have h' : C = C' := by simpa using h'
  subst h'
  exact hb
/-- the four cells of a lease in a slice -/
theorem Rd.four {w : World} {b off cap n : Nat} {l : List Ls} (h : Rd w (.slice (some ⟨b, off, none⟩) n cap) l) (i : Nat) (hi : i < l.length) :
    w.cell? ⟨b, off + i * 4, none⟩ = some (.int .i64 (l.getD i Ls.zero).name) ∧ w.cell? ⟨b, off + i * 4 + 1, none⟩ = some (.int .i64 (l.getD i Ls.zero).holder) ∧ w.cell? ⟨b, off + i * 4 + 2, none⟩ = some (.int .i64 (l.getD i Ls.zero).token) ∧ w.cell? ⟨b, off + i * 4 + 3, none⟩ = some (.int .i64 (l.getD i Ls.zero).till) := by
  have hr := Rd.cellD h i hi
  exact ⟨hr 0 _ rfl, hr 1 _ rfl, hr 2 _ rfl, hr 3 _ rfl⟩
theorem Own.len {w : World} {v : Value} {n : Nat} {l : List Ls} (h : Own w 38 4 v n (l.flatMap lcells)) : l.length = n := by
  have := h.1
  rw [lcells_len] at this
  omega
theorem Own.rd {w : World} {v : Value} {n : Nat} {l : List Ls} (h : Own w 38 4 v n (l.flatMap lcells)) : Rd w v l := by
  have := h.len
  subst this
  exact Sl.of_own h
set_option maxRecDepth 100000 in
set_option maxHeartbeats 1000000 in
theorem indexFunc_walk (l : List Ls) (n : Int) (C : Nat) (s : Value) (w : World) (hR : Rd w s l) (hC : w.cell? ⟨C, 0, none⟩ = some (.int .i64 n)) (hn : l.length ≤ 1000000) :
    Calls Try.prog 48 #[s, .func (.func 33) #[] #[.pointer (some ⟨C, 0, none⟩)]] w fun e w' => (∃ k : Nat, k ≤ l.length ∧ (∀ j, j < k → n < (l.getD j Ls.zero).till) ∧ ((k < l.length ∧ (l.getD k Ls.zero).till ≤ n ∧ e = .returned (.int .i64 k)) ∨ (k = l.length ∧ e = .returned (.int .i64 (-1))))) ∧ w.grownBy w' none := by
  obtain ⟨ao, cap, rfl, hc1, hc2⟩ := Sl.shape hR
  have HR := hid hR
  have HC := hid hC
  clear hR hC
  go_enter Try.func48, Try.ntmps48
  go_wp2
  go_loopw [8] (fun i wr => ∃ k : Nat, k ≤ l.length ∧ i = .int .i64 k ∧ (∀ j, j < k → n < (l.getD j Ls.zero).till) ∧ w.grownBy wr none) (fun i _ => l.length - (intOf i).toNat)
  case atStart => exact ⟨0, by omega, rfl, fun j hj => by omega, World.grownBy.refl _ _⟩
  case round =>
    obtain ⟨k, hk, rfl, hj, hg⟩ := hrel
    have HJ := hid hj
    have HG := hid hg
    clear hj hg
    by_cases hlt : k < l.length
    · obtain ⟨b, off, rfl⟩ := Rd.base HR.out (by omega)
      obtain ⟨d0, d1, d2, d3⟩ := Rd.four (Sl.kn HR.out HG.out) k hlt
      have hx := expired2_walk (l.getD k Ls.zero) n C wr (HG.out.cell HC.out (by simp))
      have HX := hid hx
      have hi1 : (0 : Int) ≤ (k : Int) := by omega
      have hi2 : (k : Int) < (l.length : Int) := by omega
      obtain ⟨x, hxx⟩ : ∃ x, x = l.getD k Ls.zero := ⟨_, rfl⟩
      rw [← hxx] at d0 d1 d2 d3 HX
      have HXX := hid hxx
      clear hx hxx
      go_wp2_with fail
      refine HX.out.mono ?_
      rintro e w1 ⟨rfl, g1⟩
      have G1 := hid (grown_trans HG.out g1)
      clear g1 d0 d1 d2 d3
      by_cases ht : x.till ≤ n
      · have hd : decide (x.till ≤ n) = true := decide_eq_true ht
        clear ht
        go_wp2
        go_ret
        exact ⟨⟨k, hk, HJ.out, .inl ⟨hlt, by rw [← HXX.out]; exact of_decide_eq_true hd, rfl⟩⟩, G1.out⟩
      · have hd : decide (x.till ≤ n) = false := decide_eq_false ht
        have HT := hid ht
        clear ht
        go_wp2
        go_roundw
        case rel => exact ⟨k + 1, by omega, by go_num, fun j hj => by
          rcases Nat.lt_succ_iff_lt_or_eq.1 hj with h | rfl
          · exact HJ.out j h
          · rw [← HXX.out]; have := HT.out; omega, G1.out⟩
        case measure => simp [intOf]; omega
    · obtain rfl : k = l.length := by omega
      go_wp2
      go_ret
      exact ⟨⟨l.length, Nat.le_refl _, HJ.out, .inr ⟨rfl, rfl⟩⟩, HG.out⟩
end Go.Proofs.Ytafippjpaakonaa
