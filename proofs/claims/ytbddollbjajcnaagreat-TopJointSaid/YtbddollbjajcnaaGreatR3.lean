/- TopJoint: some patterns, run. (printed by nr.py) -/
import Derived.Test.YtbddollbjajcnaaGreatNE
namespace Go.Proofs.YtbddollbjajcnaaGreat
open Go
theorem j33_3 : jointB (script 3 3 [3]) = true := by kernel_rfl
theorem j33_42 : jointB (script 3 3 [4, 2]) = true := by kernel_rfl
theorem j21_13 : jointB (script 2 1 [1, 3]) = true := by kernel_rfl
theorem j33_342 : jointB (script 3 3 [3, 4, 2]) = true := by kernel_rfl
theorem j33_423 : jointB (script 3 3 [4, 2, 3]) = true := by kernel_rfl
theorem j12_134 : jointB (script 1 2 [1, 3, 4]) = true := by kernel_rfl
theorem j12_313 : jointB (script 1 2 [3, 1, 3]) = true := by kernel_rfl
theorem j12_344 : jointB (script 1 2 [3, 4, 4]) = true := by kernel_rfl
theorem j21_213 : jointB (script 2 1 [2, 1, 3]) = true := by kernel_rfl
theorem j21_322 : jointB (script 2 1 [3, 2, 2]) = true := by kernel_rfl
def pats3 : List (Nat × Nat × List Nat) := [(3, 3, [3]), (3, 3, [4, 2]), (2, 1, [1, 3]), (3, 3, [3, 4, 2]), (3, 3, [4, 2, 3]), (1, 2, [1, 3, 4]), (1, 2, [3, 1, 3]), (1, 2, [3, 4, 4]), (2, 1, [2, 1, 3]), (2, 1, [3, 2, 2])]
theorem jall3 : AllJ pats3 := .cons j33_3 (.cons j33_42 (.cons j21_13 (.cons j33_342 (.cons j33_423 (.cons j12_134 (.cons j12_313 (.cons j12_344 (.cons j21_213 (.cons j21_322 (.nil))))))))))
end Go.Proofs.YtbddollbjajcnaaGreat
