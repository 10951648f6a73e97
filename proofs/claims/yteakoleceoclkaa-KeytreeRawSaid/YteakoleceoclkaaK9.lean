/- Key trees: addresses, new trees. -/
import Derived.Test.YteakoleceoclkaaK8
namespace Go.Proofs.Yteakoleceoclkaa
open Go.RowKit Go.Shelf
set_option linter.unusedSimpArgs false
set_option linter.unusedVariables false
attribute [local go_sem] Oper.semAt_some

def addrOf (s c : Int) : Int × Int := if s < 0 ∨ 1073741824 < s ∨ c < 0 ∨ 8 ≤ c then (0, 1) else (s * 8 + c, 0)
set_option maxRecDepth 100000 in
theorem address_walk (s c : Int) (w : World) : Calls Try.prog 17 #[.int .i64 s, .int .i64 c] w fun e w' => e = .returned (.tuple #[.int .i64 (addrOf s c).1, .int .i64 (addrOf s c).2]) ∧ w' = w := by
  by_cases h1 : s < 0
  · rw [show addrOf s c = (0, 1) by unfold addrOf; rw [if_pos (by omega)]]
    have t1 : decide (s < 0) = true := decide_eq_true h1
    go_enter Try.func17, Try.ntmps17
    go_wp2
    go_ret2
    exact ⟨rfl, rfl⟩
  · have t1 : decide (s < 0) = false := decide_eq_false h1
    by_cases h2 : 1073741824 < s
    · rw [show addrOf s c = (0, 1) by unfold addrOf; rw [if_pos (by omega)]]
      have t2 : decide (1073741824 < s) = true := decide_eq_true h2
      go_enter Try.func17, Try.ntmps17
      go_wp2
      go_ret2
      exact ⟨rfl, rfl⟩
    · have t2 : decide (1073741824 < s) = false := decide_eq_false h2
      by_cases h3 : c < 0
      · rw [show addrOf s c = (0, 1) by unfold addrOf; rw [if_pos (by omega)]]
        have t3 : decide (c < 0) = true := decide_eq_true h3
        go_enter Try.func17, Try.ntmps17
        go_wp2
        go_ret2
        exact ⟨rfl, rfl⟩
      · have t3 : decide (c < 0) = false := decide_eq_false h3
        by_cases h4 : 8 ≤ c
        · rw [show addrOf s c = (0, 1) by unfold addrOf; rw [if_pos (by omega)]]
          have t4 : decide (8 ≤ c) = true := decide_eq_true h4
          go_enter Try.func17, Try.ntmps17
          go_wp2
          go_ret2
          exact ⟨rfl, rfl⟩
        · rw [show addrOf s c = (s * 8 + c, 0) by unfold addrOf; rw [if_neg (by omega)]]
          have t4 : decide (8 ≤ c) = false := decide_eq_false h4
          have w1 : IntKind.i64.wrap (s * 8) = s * 8 := by rw [IntKind.wrap_i64]; omega
          have w2 : IntKind.i64.wrap (s * 8 + c) = s * 8 + c := by rw [IntKind.wrap_i64]; omega
          go_enter Try.func17, Try.ntmps17
          go_wp2
          go_ret2
          first | exact ⟨rfl, rfl⟩ | exact ⟨by rw [w1, w2], rfl⟩
set_option maxRecDepth 100000 in
theorem raddress_walk (s c : Int) (w : World) : Calls Try.prog 18 #[.int .i64 s, .int .i64 c] w fun e w' => e = .returned (.tuple #[.int .i64 (addrOf s c).1, .int .i64 (addrOf s c).2]) ∧ w' = w := by
  by_cases h1 : s < 0
  · rw [show addrOf s c = (0, 1) by unfold addrOf; rw [if_pos (by omega)]]
    have t1 : decide (s < 0) = true := decide_eq_true h1
    go_enter Try.func18, Try.ntmps18
    go_wp2
    go_ret2
    exact ⟨rfl, rfl⟩
  · have t1 : decide (s < 0) = false := decide_eq_false h1
    by_cases h2 : 1073741824 < s
    · rw [show addrOf s c = (0, 1) by unfold addrOf; rw [if_pos (by omega)]]
      have t2 : decide (1073741824 < s) = true := decide_eq_true h2
      go_enter Try.func18, Try.ntmps18
      go_wp2
      go_ret2
      exact ⟨rfl, rfl⟩
    · have t2 : decide (1073741824 < s) = false := decide_eq_false h2
      by_cases h3 : c < 0
      · rw [show addrOf s c = (0, 1) by unfold addrOf; rw [if_pos (by omega)]]
        have t3 : decide (c < 0) = true := decide_eq_true h3
        go_enter Try.func18, Try.ntmps18
        go_wp2
        go_ret2
        exact ⟨rfl, rfl⟩
      · have t3 : decide (c < 0) = false := decide_eq_false h3
        by_cases h4 : 8 ≤ c
        · rw [show addrOf s c = (0, 1) by unfold addrOf; rw [if_pos (by omega)]]
          have t4 : decide (8 ≤ c) = true := decide_eq_true h4
          go_enter Try.func18, Try.ntmps18
          go_wp2
          go_ret2
          exact ⟨rfl, rfl⟩
        · rw [show addrOf s c = (s * 8 + c, 0) by unfold addrOf; rw [if_neg (by omega)]]
          have t4 : decide (8 ≤ c) = false := decide_eq_false h4
          have w1 : IntKind.i64.wrap (s * 8) = s * 8 := by rw [IntKind.wrap_i64]; omega
          have w2 : IntKind.i64.wrap (s * 8 + c) = s * 8 + c := by rw [IntKind.wrap_i64]; omega
          go_enter Try.func18, Try.ntmps18
          go_wp2
          go_ret2
          first | exact ⟨rfl, rfl⟩ | exact ⟨by rw [w1, w2], rfl⟩
/-- the law's cut of an address -/
def adr (n : Int) : Int := bits .and .i64 n 17179869183
set_option maxRecDepth 100000 in
theorem adr_walk (n : Int) (w : World) : Calls Try.prog 30 #[.int .i64 n] w fun e w' => e = .returned (.int .i64 (adr n)) ∧ w' = w := by
  unfold adr
  go_enter Try.func30, Try.ntmps30
  go_wp2
  go_ret
  exact ⟨rfl, rfl⟩
theorem bN2 (l : List Nat) (hl : l.length = 32) (w : World) : (Instr.build 91 #[(2, dval l)]).run Try.prog w = .ok (nval ⟨0, 0, l⟩) w := by
  obtain ⟨x0, x1, x2, x3, x4, x5, x6, x7, x8, x9, x10, x11, x12, x13, x14, x15, x16, x17, x18, x19, x20, x21, x22, x23, x24, x25, x26, x27, x28, x29, x30, x31, rfl⟩ := list32 l hl
  kernel_rfl
end Go.Proofs.Yteakoleceoclkaa
