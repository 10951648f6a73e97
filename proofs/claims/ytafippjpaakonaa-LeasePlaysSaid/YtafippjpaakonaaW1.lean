/- Leases: cells, small functions of the program. -/
import Derived.Test.YtafippjpaakonaaB2
import Derived.Test.YtafippjpaakonaaPl
namespace Go.Proofs.Ytafippjpaakonaa
open Go.RowKit
set_option linter.unusedSimpArgs false
set_option linter.unusedVariables false

def lcells (x : Ls) : List Value := [.int .i64 x.name, .int .i64 x.holder, .int .i64 x.token, .int .i64 x.till]
def lval (x : Ls) : Value := .agg #[.int .i64 x.name, .int .i64 x.holder, .int .i64 x.token, .int .i64 x.till]
def tval (n : Int) (s : Value) : Value := .agg #[.int .i64 n, s]
theorem mixed : Try.prog.follows .mixedOrders = true := by kernel_rfl
theorem tyL (x : Ls) : TY Try.prog 38 (lcells x) (lval x) := TY.agg Try.underlying38 rfl (by kernel_rfl) (by simp [lcells, Value.oneCell'])
theorem tyI (n : Int) : TY Try.prog 3 [.int .i64 n] (.int .i64 n) := TY.one' Try.underlying3 rfl (by kernel_rfl) rfl
theorem tyB (b : Bool) : TY Try.prog 4 [.bool b] (.bool b) := TY.one' Try.underlying4 rfl (by kernel_rfl) rfl
theorem tyE (n : Int) : TY Try.prog 26 [.int .i64 n] (.int .i64 n) := TY.one' Try.underlying26 rfl (by kernel_rfl) rfl
theorem tyS (ao : Option Addr) (n c : Nat) : TY Try.prog 22 [.slice ao n c] (.slice ao n c) := TY.one' Try.underlying22 rfl (by kernel_rfl) rfl
theorem tyT (n : Int) (ao : Option Addr) (k c : Nat) : TY Try.prog 24 [.int .i64 n, .slice ao k c] (tval n (.slice ao k c)) := TY.agg Try.underlying24 rfl (by kernel_rfl) (by simp [Value.oneCell'])
/-- s reads as these leases -/
def Rd (w : World) (s : Value) (l : List Ls) : Prop := Sl w 4 s l.length (l.flatMap lcells)
theorem lcells_len (l : List Ls) : (l.flatMap lcells).length = l.length * 4 := by
  induction l with
  | nil => rfl
  | cons x l ih => simp only [List.flatMap_cons, List.length_append, ih, List.length_cons]; simp [lcells]; omega
theorem Sl.kn {w w' : World} {sz : Nat} {v : Value} {n : Nat} {xs : List Value} (h : Sl w sz v n xs) (hg : w.grownBy w' none) : Sl w' sz v n xs := h.kept hg (by cases v.ownBlock <;> simp)
theorem leases_one (l : List Ls) : (l.flatMap lcells).all Value.oneCell' = true := by
  rw [List.all_eq_true]
  intro v hv
  obtain ⟨x, _, hx⟩ := List.mem_flatMap.1 hv
  simp [lcells] at hx
  rcases hx with rfl | rfl | rfl | rfl <;> rfl
theorem leaseT : ET Try.prog 22 38 (.agg #[.int .i64 0, .int .i64 0, .int .i64 0, .int .i64 0]) 4 32 := ⟨Try.underlying22, info_parts (by kernel_rfl), rfl, by decide, by decide⟩
set_option maxRecDepth 100000 in
def vT (n : Int) : Bool := decide (-Top ≤ n) && decide (n ≤ Top)
def vD (n : Int) : Bool := decide (1 ≤ n) && decide (n ≤ Top)
theorem timely_eq (a b : Int) : timely a b = (vT a && vD b) := by unfold timely vT vD; cases decide (-Top ≤ a) <;> simp [Bool.and_assoc]
set_option maxRecDepth 100000 in
theorem validTime_walk (n : Int) (w : World) : Calls Try.prog 25 #[.int .i64 n] w fun e w' => e = .returned (.bool (vT n)) ∧ w' = w := by
  unfold vT
  unfold Top
  by_cases h1 : -1099511627776 ≤ n <;> by_cases h2 : n ≤ 1099511627776
  all_goals
    go_enter Try.func25, Try.ntmps25
    go_wp2
    go_ret
    simp [h1, h2]
set_option maxRecDepth 100000 in
theorem validDuration_walk (n : Int) (w : World) : Calls Try.prog 26 #[.int .i64 n] w fun e w' => e = .returned (.bool (vD n)) ∧ w' = w := by
  unfold vD
  unfold Top
  by_cases h1 : 1 ≤ n <;> by_cases h2 : n ≤ 1099511627776
  all_goals
    go_enter Try.func26, Try.ntmps26
    go_wp2
    go_ret
    simp [h1, h2]
set_option maxRecDepth 100000 in
theorem expired_walk (x : Ls) (n : Int) (w : World) : Calls Try.prog 28 #[lval x, .int .i64 n] w fun e w' => e = .returned (.bool (decide (x.till ≤ n))) ∧ w.grownBy w' none := by
  unfold lval
  go_enter Try.func28, Try.ntmps28
  go_wp2
  go_ret
  exact ⟨rfl, World.grownBy_alloc _ _ _⟩
set_option maxRecDepth 100000 in
theorem expired2_walk (x : Ls) (n : Int) (C : Nat) (w : World) (hC : w.cell? ⟨C, 0, none⟩ = some (.int .i64 n)) : Calls Try.prog 33 #[lval x, .pointer (some ⟨C, 0, none⟩)] w fun e w' => e = .returned (.bool (decide (x.till ≤ n))) ∧ w.grownBy w' none := by
  have hlt := block_lt_of_cell hC
  have hC' : (w.alloc (.cells #[.int .i64 x.name, .int .i64 x.holder, .int .i64 x.token, .int .i64 x.till] 38)).cell? ⟨C, 0, none⟩ = some (.int .i64 n) := (World.grownBy_alloc w _ none).cell hC (by simp)
  unfold lval
  go_enter Try.func33, Try.ntmps33
  go_wp2_with (refine (expired_walk x n _).mono ?_; rintro e w' ⟨rfl, hg⟩)
  go_ret
  exact ⟨rfl, grown_trans (World.grownBy_alloc _ _ _) hg⟩
end Go.Proofs.Ytafippjpaakonaa
