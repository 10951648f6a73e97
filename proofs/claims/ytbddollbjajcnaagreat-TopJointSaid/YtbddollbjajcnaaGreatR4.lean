/- TopJoint: some patterns, run. (printed by nr.py) -/
import Derived.Test.YtbddollbjajcnaaGreatNE
namespace Go.Proofs.YtbddollbjajcnaaGreat
open Go
theorem j33_4 : jointB (script 3 3 [4]) = true := by kernel_rfl
theorem j12_11 : jointB (script 1 2 [1, 1]) = true := by kernel_rfl
theorem j21_21 : jointB (script 2 1 [2, 1]) = true := by kernel_rfl
theorem j33_433 : jointB (script 3 3 [4, 3, 3]) = true := by kernel_rfl
theorem j33_424 : jointB (script 3 3 [4, 2, 4]) = true := by kernel_rfl
theorem j12_211 : jointB (script 1 2 [2, 1, 1]) = true := by kernel_rfl
theorem j12_314 : jointB (script 1 2 [3, 1, 4]) = true := by kernel_rfl
theorem j21_111 : jointB (script 2 1 [1, 1, 1]) = true := by kernel_rfl
theorem j21_221 : jointB (script 2 1 [2, 2, 1]) = true := by kernel_rfl
theorem j21_323 : jointB (script 2 1 [3, 2, 3]) = true := by kernel_rfl
def pats4 : List (Nat × Nat × List Nat) := [(3, 3, [4]), (1, 2, [1, 1]), (2, 1, [2, 1]), (3, 3, [4, 3, 3]), (3, 3, [4, 2, 4]), (1, 2, [2, 1, 1]), (1, 2, [3, 1, 4]), (2, 1, [1, 1, 1]), (2, 1, [2, 2, 1]), (2, 1, [3, 2, 3])]
theorem jall4 : AllJ pats4 := .cons j33_4 (.cons j12_11 (.cons j21_21 (.cons j33_433 (.cons j33_424 (.cons j12_211 (.cons j12_314 (.cons j21_111 (.cons j21_221 (.cons j21_323 (.nil))))))))))
end Go.Proofs.YtbddollbjajcnaaGreat
