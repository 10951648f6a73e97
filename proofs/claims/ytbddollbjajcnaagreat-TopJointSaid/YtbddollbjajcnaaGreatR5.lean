/- TopJoint: some patterns, run. (printed by nr.py) -/
import Derived.Test.YtbddollbjajcnaaGreatNE
namespace Go.Proofs.YtbddollbjajcnaaGreat
open Go
theorem j12_1 : jointB (script 1 2 [1]) = true := by kernel_rfl
theorem j12_12 : jointB (script 1 2 [1, 2]) = true := by kernel_rfl
theorem j21_22 : jointB (script 2 1 [2, 2]) = true := by kernel_rfl
theorem j33_434 : jointB (script 3 3 [4, 3, 4]) = true := by kernel_rfl
theorem j33_421 : jointB (script 3 3 [4, 2, 1]) = true := by kernel_rfl
theorem j12_212 : jointB (script 1 2 [2, 1, 2]) = true := by kernel_rfl
theorem j12_321 : jointB (script 1 2 [3, 2, 1]) = true := by kernel_rfl
theorem j21_112 : jointB (script 2 1 [1, 1, 2]) = true := by kernel_rfl
theorem j21_222 : jointB (script 2 1 [2, 2, 2]) = true := by kernel_rfl
theorem j21_324 : jointB (script 2 1 [3, 2, 4]) = true := by kernel_rfl
def pats5 : List (Nat × Nat × List Nat) := [(1, 2, [1]), (1, 2, [1, 2]), (2, 1, [2, 2]), (3, 3, [4, 3, 4]), (3, 3, [4, 2, 1]), (1, 2, [2, 1, 2]), (1, 2, [3, 2, 1]), (2, 1, [1, 1, 2]), (2, 1, [2, 2, 2]), (2, 1, [3, 2, 4])]
theorem jall5 : AllJ pats5 := .cons j12_1 (.cons j12_12 (.cons j21_22 (.cons j33_434 (.cons j33_421 (.cons j12_212 (.cons j12_321 (.cons j21_112 (.cons j21_222 (.cons j21_324 (.nil))))))))))
end Go.Proofs.YtbddollbjajcnaaGreat
