/- TopJoint: some patterns, run. (printed by nr.py) -/
import Derived.Test.YtbddollbjajcnaaGreatNE
namespace Go.Proofs.YtbddollbjajcnaaGreat
open Go
theorem j21_ : jointB (script 2 1 []) = true := by kernel_rfl
theorem j33_41 : jointB (script 3 3 [4, 1]) = true := by kernel_rfl
theorem j21_12 : jointB (script 2 1 [1, 2]) = true := by kernel_rfl
theorem j33_341 : jointB (script 3 3 [3, 4, 1]) = true := by kernel_rfl
theorem j33_412 : jointB (script 3 3 [4, 1, 2]) = true := by kernel_rfl
theorem j12_133 : jointB (script 1 2 [1, 3, 3]) = true := by kernel_rfl
theorem j12_312 : jointB (script 1 2 [3, 1, 2]) = true := by kernel_rfl
theorem j12_343 : jointB (script 1 2 [3, 4, 3]) = true := by kernel_rfl
theorem j21_212 : jointB (script 2 1 [2, 1, 2]) = true := by kernel_rfl
theorem j21_321 : jointB (script 2 1 [3, 2, 1]) = true := by kernel_rfl
def pats2 : List (Nat × Nat × List Nat) := [(2, 1, []), (3, 3, [4, 1]), (2, 1, [1, 2]), (3, 3, [3, 4, 1]), (3, 3, [4, 1, 2]), (1, 2, [1, 3, 3]), (1, 2, [3, 1, 2]), (1, 2, [3, 4, 3]), (2, 1, [2, 1, 2]), (2, 1, [3, 2, 1])]
theorem jall2 : AllJ pats2 := .cons j21_ (.cons j33_41 (.cons j21_12 (.cons j33_341 (.cons j33_412 (.cons j12_133 (.cons j12_312 (.cons j12_343 (.cons j21_212 (.cons j21_321 (.nil))))))))))
end Go.Proofs.YtbddollbjajcnaaGreat
