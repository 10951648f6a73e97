/- TopJoint: some patterns, run. (printed by nr.py) -/
import Derived.Test.YtbddollbjajcnaaGreatNE
namespace Go.Proofs.YtbddollbjajcnaaGreat
open Go
theorem j12_ : jointB (script 1 2 []) = true := by kernel_rfl
theorem j33_44 : jointB (script 3 3 [4, 4]) = true := by kernel_rfl
theorem j21_11 : jointB (script 2 1 [1, 1]) = true := by kernel_rfl
theorem j33_344 : jointB (script 3 3 [3, 4, 4]) = true := by kernel_rfl
theorem j33_411 : jointB (script 3 3 [4, 1, 1]) = true := by kernel_rfl
theorem j12_132 : jointB (script 1 2 [1, 3, 2]) = true := by kernel_rfl
theorem j12_311 : jointB (script 1 2 [3, 1, 1]) = true := by kernel_rfl
theorem j12_342 : jointB (script 1 2 [3, 4, 2]) = true := by kernel_rfl
theorem j21_211 : jointB (script 2 1 [2, 1, 1]) = true := by kernel_rfl
theorem j21_314 : jointB (script 2 1 [3, 1, 4]) = true := by kernel_rfl
def pats1 : List (Nat × Nat × List Nat) := [(1, 2, []), (3, 3, [4, 4]), (2, 1, [1, 1]), (3, 3, [3, 4, 4]), (3, 3, [4, 1, 1]), (1, 2, [1, 3, 2]), (1, 2, [3, 1, 1]), (1, 2, [3, 4, 2]), (2, 1, [2, 1, 1]), (2, 1, [3, 1, 4])]
theorem jall1 : AllJ pats1 := .cons j12_ (.cons j33_44 (.cons j21_11 (.cons j33_344 (.cons j33_411 (.cons j12_132 (.cons j12_311 (.cons j12_342 (.cons j21_211 (.cons j21_314 (.nil))))))))))
end Go.Proofs.YtbddollbjajcnaaGreat
