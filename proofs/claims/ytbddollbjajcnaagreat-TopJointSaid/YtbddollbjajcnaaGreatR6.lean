/- TopJoint: some patterns, run. (printed by nr.py) -/
import Derived.Test.YtbddollbjajcnaaGreatNE
namespace Go.Proofs.YtbddollbjajcnaaGreat
open Go
theorem j12_2 : jointB (script 1 2 [2]) = true := by kernel_rfl
theorem j12_13 : jointB (script 1 2 [1, 3]) = true := by kernel_rfl
theorem j21_23 : jointB (script 2 1 [2, 3]) = true := by kernel_rfl
theorem j33_431 : jointB (script 3 3 [4, 3, 1]) = true := by kernel_rfl
theorem j33_422 : jointB (script 3 3 [4, 2, 2]) = true := by kernel_rfl
theorem j12_213 : jointB (script 1 2 [2, 1, 3]) = true := by kernel_rfl
theorem j12_322 : jointB (script 1 2 [3, 2, 2]) = true := by kernel_rfl
theorem j21_113 : jointB (script 2 1 [1, 1, 3]) = true := by kernel_rfl
theorem j21_223 : jointB (script 2 1 [2, 2, 3]) = true := by kernel_rfl
theorem j21_331 : jointB (script 2 1 [3, 3, 1]) = true := by kernel_rfl
def pats6 : List (Nat × Nat × List Nat) := [(1, 2, [2]), (1, 2, [1, 3]), (2, 1, [2, 3]), (3, 3, [4, 3, 1]), (3, 3, [4, 2, 2]), (1, 2, [2, 1, 3]), (1, 2, [3, 2, 2]), (2, 1, [1, 1, 3]), (2, 1, [2, 2, 3]), (2, 1, [3, 3, 1])]
theorem jall6 : AllJ pats6 := .cons j12_2 (.cons j12_13 (.cons j21_23 (.cons j33_431 (.cons j33_422 (.cons j12_213 (.cons j12_322 (.cons j21_113 (.cons j21_223 (.cons j21_331 (.nil))))))))))
end Go.Proofs.YtbddollbjajcnaaGreat
