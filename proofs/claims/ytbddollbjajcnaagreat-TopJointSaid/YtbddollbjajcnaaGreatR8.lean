/- TopJoint: some patterns, run. (printed by nr.py) -/
import Derived.Test.YtbddollbjajcnaaGreatNE
namespace Go.Proofs.YtbddollbjajcnaaGreat
open Go
theorem j21_1 : jointB (script 2 1 [1]) = true := by kernel_rfl
theorem j12_22 : jointB (script 1 2 [2, 2]) = true := by kernel_rfl
theorem j21_32 : jointB (script 2 1 [3, 2]) = true := by kernel_rfl
theorem j33_443 : jointB (script 3 3 [4, 4, 3]) = true := by kernel_rfl
theorem j12_112 : jointB (script 1 2 [1, 1, 2]) = true := by kernel_rfl
theorem j12_222 : jointB (script 1 2 [2, 2, 2]) = true := by kernel_rfl
theorem j12_324 : jointB (script 1 2 [3, 2, 4]) = true := by kernel_rfl
theorem j21_122 : jointB (script 2 1 [1, 2, 2]) = true := by kernel_rfl
theorem j21_232 : jointB (script 2 1 [2, 3, 2]) = true := by kernel_rfl
theorem j21_333 : jointB (script 2 1 [3, 3, 3]) = true := by kernel_rfl
def pats8 : List (Nat × Nat × List Nat) := [(2, 1, [1]), (1, 2, [2, 2]), (2, 1, [3, 2]), (3, 3, [4, 4, 3]), (1, 2, [1, 1, 2]), (1, 2, [2, 2, 2]), (1, 2, [3, 2, 4]), (2, 1, [1, 2, 2]), (2, 1, [2, 3, 2]), (2, 1, [3, 3, 3])]
theorem jall8 : AllJ pats8 := .cons j21_1 (.cons j12_22 (.cons j21_32 (.cons j33_443 (.cons j12_112 (.cons j12_222 (.cons j12_324 (.cons j21_122 (.cons j21_232 (.cons j21_333 (.nil))))))))))
end Go.Proofs.YtbddollbjajcnaaGreat
