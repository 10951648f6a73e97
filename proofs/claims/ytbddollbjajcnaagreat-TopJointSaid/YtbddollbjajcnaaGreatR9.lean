/- TopJoint: some patterns, run. (printed by nr.py) -/
import Derived.Test.YtbddollbjajcnaaGreatNE
namespace Go.Proofs.YtbddollbjajcnaaGreat
open Go
theorem j21_2 : jointB (script 2 1 [2]) = true := by kernel_rfl
theorem j12_23 : jointB (script 1 2 [2, 3]) = true := by kernel_rfl
theorem j21_33 : jointB (script 2 1 [3, 3]) = true := by kernel_rfl
theorem j33_444 : jointB (script 3 3 [4, 4, 4]) = true := by kernel_rfl
theorem j12_113 : jointB (script 1 2 [1, 1, 3]) = true := by kernel_rfl
theorem j12_223 : jointB (script 1 2 [2, 2, 3]) = true := by kernel_rfl
theorem j12_331 : jointB (script 1 2 [3, 3, 1]) = true := by kernel_rfl
theorem j21_123 : jointB (script 2 1 [1, 2, 3]) = true := by kernel_rfl
theorem j21_233 : jointB (script 2 1 [2, 3, 3]) = true := by kernel_rfl
theorem j21_334 : jointB (script 2 1 [3, 3, 4]) = true := by kernel_rfl
def pats9 : List (Nat × Nat × List Nat) := [(2, 1, [2]), (1, 2, [2, 3]), (2, 1, [3, 3]), (3, 3, [4, 4, 4]), (1, 2, [1, 1, 3]), (1, 2, [2, 2, 3]), (1, 2, [3, 3, 1]), (2, 1, [1, 2, 3]), (2, 1, [2, 3, 3]), (2, 1, [3, 3, 4])]
theorem jall9 : AllJ pats9 := .cons j21_2 (.cons j12_23 (.cons j21_33 (.cons j33_444 (.cons j12_113 (.cons j12_223 (.cons j12_331 (.cons j21_123 (.cons j21_233 (.cons j21_334 (.nil))))))))))
end Go.Proofs.YtbddollbjajcnaaGreat
