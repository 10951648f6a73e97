/- TopJoint: some patterns, run. (printed by nr.py) -/
import Derived.Test.YtbddollbjajcnaaGreatNE
namespace Go.Proofs.YtbddollbjajcnaaGreat
open Go
theorem j33_33 : jointB (script 3 3 [3, 3]) = true := by kernel_rfl
theorem j12_32 : jointB (script 1 2 [3, 2]) = true := by kernel_rfl
theorem j33_333 : jointB (script 3 3 [3, 3, 3]) = true := by kernel_rfl
theorem j33_442 : jointB (script 3 3 [4, 4, 2]) = true := by kernel_rfl
theorem j12_122 : jointB (script 1 2 [1, 2, 2]) = true := by kernel_rfl
theorem j12_232 : jointB (script 1 2 [2, 3, 2]) = true := by kernel_rfl
theorem j12_333 : jointB (script 1 2 [3, 3, 3]) = true := by kernel_rfl
theorem j21_132 : jointB (script 2 1 [1, 3, 2]) = true := by kernel_rfl
theorem j21_311 : jointB (script 2 1 [3, 1, 1]) = true := by kernel_rfl
theorem j21_342 : jointB (script 2 1 [3, 4, 2]) = true := by kernel_rfl
def pats11 : List (Nat × Nat × List Nat) := [(3, 3, [3, 3]), (1, 2, [3, 2]), (3, 3, [3, 3, 3]), (3, 3, [4, 4, 2]), (1, 2, [1, 2, 2]), (1, 2, [2, 3, 2]), (1, 2, [3, 3, 3]), (2, 1, [1, 3, 2]), (2, 1, [3, 1, 1]), (2, 1, [3, 4, 2])]
theorem jall11 : AllJ pats11 := .cons j33_33 (.cons j12_32 (.cons j33_333 (.cons j33_442 (.cons j12_122 (.cons j12_232 (.cons j12_333 (.cons j21_132 (.cons j21_311 (.cons j21_342 (.nil))))))))))
end Go.Proofs.YtbddollbjajcnaaGreat
