/- Leases: the reference's Same at equal tables. -/
import Derived.Test.YtafippjpaakonaaW20
namespace Go.Proofs.Ytafippjpaakonaa
open Go.RowKit
set_option linter.unusedSimpArgs false
set_option linter.unusedVariables false

set_option maxRecDepth 100000 in
set_option maxHeartbeats 1000000 in
theorem same_walk (l : List Ls) (next : Int) (s1 s2 : Value) (w : World) (hR1 : Rd w s1 l) (hR2 : Rd w s2 l) (hn : l.length ≤ 1099511627776) :
    Calls Try.prog 20 #[tval next s1, tval next s2] w fun e w' => e = .returned (.bool true) ∧ w.grownBy w' none := by
  obtain ⟨ao, cap, rfl, _, _⟩ := Sl.shape hR1
  obtain ⟨ao2, cap2, rfl, _, _⟩ := Sl.shape hR2
  have HR := hid hR1
  have HS := hid hR2
  clear hR1 hR2
  unfold tval
  obtain ⟨W, hW⟩ : ∃ W, W = ((w.alloc (.cells #[.int .i64 next, .slice ao l.length cap] 24)).alloc (.cells #[.int .i64 next, .slice ao2 l.length cap2] 24)) := ⟨_, rfl⟩
  have F0 := hid (show RF 24 w W next (.slice ao l.length cap) [.int .i64 next, .slice ao2 l.length cap2] from by rw [hW]; exact RF.start w next _ _ _)
  have HWW := hid hW
  clear hW
  have c0 : W.cell? ⟨w.heap.size, 0, none⟩ = some (.int .i64 next) := by rw [cell_of_row _ _ _ _ _ _ F0.out.b0]; rfl
  have c1 : W.cell? ⟨w.heap.size, 1, none⟩ = some (.slice ao l.length cap) := by rw [cell_of_row _ _ _ _ _ _ F0.out.b0]; rfl
  have e0 : W.cell? ⟨w.heap.size + 1, 0, none⟩ = some (.int .i64 next) := by rw [cell_of_row _ _ _ _ _ _ F0.out.b1]; rfl
  have e1 : W.cell? ⟨w.heap.size + 1, 1, none⟩ = some (.slice ao2 l.length cap2) := by rw [cell_of_row _ _ _ _ _ _ F0.out.b1]; rfl
  go_enter Try.func20, Try.ntmps20
  go_wp2
  rw [← HWW.out]
  go_loopw [5] (fun i wr => ∃ k : Nat, k ≤ l.length ∧ i = .int .i64 k ∧ RF 24 w wr next (.slice ao l.length cap) [.int .i64 next, .slice ao2 l.length cap2]) (fun i _ => l.length - (intOf i).toNat)
  case atStart => exact ⟨0, Nat.zero_le _, rfl, F0.out⟩
  case round =>
    obtain ⟨k, hk, rfl, hrf⟩ := hrel
    have FK := hid hrf
    clear hrf c0 c1 e0 e1
    have c1 : wr.cell? ⟨w.heap.size, 1, none⟩ = some (.slice ao l.length cap) := by rw [cell_of_row _ _ _ _ _ _ FK.out.b0]; rfl
    have e1 : wr.cell? ⟨w.heap.size + 1, 1, none⟩ = some (.slice ao2 l.length cap2) := by rw [cell_of_row _ _ _ _ _ _ FK.out.b1]; rfl
    by_cases hlt : k < l.length
    · obtain ⟨b, off, rfl⟩ := Rd.base HR.out (by omega)
      obtain ⟨b2, off2, rfl⟩ := Rd.base HS.out (by omega)
      obtain ⟨d0, d1, d2, d3⟩ := Rd.four (Sl.kn HR.out FK.out.g) k hlt
      obtain ⟨f0, f1, f2, f3⟩ := Rd.four (Sl.kn HS.out FK.out.g) k hlt
      generalize l.getD k Ls.zero = x at *
      have i1 : (0 : Int) ≤ (k : Int) := by omega
      have i2 : (k : Int) < (l.length : Int) := by omega
      go_wp2
      go_quiet (fail)
      go_wp2
      go_roundw
      case rel => exact ⟨k + 1, by omega, by go_num, FK.out.call (grown_drewN _ _)⟩
      case measure => simp [intOf]; omega
    · obtain rfl : k = l.length := by omega
      go_wp2
      go_ret
      exact ⟨rfl, FK.out.g⟩
end Go.Proofs.Ytafippjpaakonaa
