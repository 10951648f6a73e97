/- TopJoint: some patterns, run. (printed by nr.py) -/
import Derived.Test.YtbddollbjajcnaaGreatNE
namespace Go.Proofs.YtbddollbjajcnaaGreat
open Go
theorem j33_34 : jointB (script 3 3 [3, 4]) = true := by kernel_rfl
theorem j12_33 : jointB (script 1 2 [3, 3]) = true := by kernel_rfl
theorem j33_334 : jointB (script 3 3 [3, 3, 4]) = true := by kernel_rfl
theorem j33_413 : jointB (script 3 3 [4, 1, 3]) = true := by kernel_rfl
theorem j12_123 : jointB (script 1 2 [1, 2, 3]) = true := by kernel_rfl
theorem j12_233 : jointB (script 1 2 [2, 3, 3]) = true := by kernel_rfl
theorem j12_334 : jointB (script 1 2 [3, 3, 4]) = true := by kernel_rfl
theorem j21_133 : jointB (script 2 1 [1, 3, 3]) = true := by kernel_rfl
theorem j21_312 : jointB (script 2 1 [3, 1, 2]) = true := by kernel_rfl
theorem j21_343 : jointB (script 2 1 [3, 4, 3]) = true := by kernel_rfl
def pats12 : List (Nat × Nat × List Nat) := [(3, 3, [3, 4]), (1, 2, [3, 3]), (3, 3, [3, 3, 4]), (3, 3, [4, 1, 3]), (1, 2, [1, 2, 3]), (1, 2, [2, 3, 3]), (1, 2, [3, 3, 4]), (2, 1, [1, 3, 3]), (2, 1, [3, 1, 2]), (2, 1, [3, 4, 3])]
theorem jall12 : AllJ pats12 := .cons j33_34 (.cons j12_33 (.cons j33_334 (.cons j33_413 (.cons j12_123 (.cons j12_233 (.cons j12_334 (.cons j21_133 (.cons j21_312 (.cons j21_343 (.nil))))))))))
end Go.Proofs.YtbddollbjajcnaaGreat
