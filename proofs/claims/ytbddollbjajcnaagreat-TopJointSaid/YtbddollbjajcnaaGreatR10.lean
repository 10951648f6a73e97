/- TopJoint: some patterns, run. (printed by nr.py) -/
import Derived.Test.YtbddollbjajcnaaGreatNE
namespace Go.Proofs.YtbddollbjajcnaaGreat
open Go
theorem j21_3 : jointB (script 2 1 [3]) = true := by kernel_rfl
theorem j12_31 : jointB (script 1 2 [3, 1]) = true := by kernel_rfl
theorem j21_34 : jointB (script 2 1 [3, 4]) = true := by kernel_rfl
theorem j33_441 : jointB (script 3 3 [4, 4, 1]) = true := by kernel_rfl
theorem j12_121 : jointB (script 1 2 [1, 2, 1]) = true := by kernel_rfl
theorem j12_231 : jointB (script 1 2 [2, 3, 1]) = true := by kernel_rfl
theorem j12_332 : jointB (script 1 2 [3, 3, 2]) = true := by kernel_rfl
theorem j21_131 : jointB (script 2 1 [1, 3, 1]) = true := by kernel_rfl
theorem j21_234 : jointB (script 2 1 [2, 3, 4]) = true := by kernel_rfl
theorem j21_341 : jointB (script 2 1 [3, 4, 1]) = true := by kernel_rfl
def pats10 : List (Nat × Nat × List Nat) := [(2, 1, [3]), (1, 2, [3, 1]), (2, 1, [3, 4]), (3, 3, [4, 4, 1]), (1, 2, [1, 2, 1]), (1, 2, [2, 3, 1]), (1, 2, [3, 3, 2]), (2, 1, [1, 3, 1]), (2, 1, [2, 3, 4]), (2, 1, [3, 4, 1])]
theorem jall10 : AllJ pats10 := .cons j21_3 (.cons j12_31 (.cons j21_34 (.cons j33_441 (.cons j12_121 (.cons j12_231 (.cons j12_332 (.cons j21_131 (.cons j21_234 (.cons j21_341 (.nil))))))))))
end Go.Proofs.YtbddollbjajcnaaGreat
