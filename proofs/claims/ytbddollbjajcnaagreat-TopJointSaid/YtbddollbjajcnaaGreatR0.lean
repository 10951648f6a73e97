/- TopJoint: some patterns, run. (printed by nr.py) -/
import Derived.Test.YtbddollbjajcnaaGreatNE
namespace Go.Proofs.YtbddollbjajcnaaGreat
open Go
theorem j33_ : jointB (script 3 3 []) = true := by kernel_rfl
theorem j33_43 : jointB (script 3 3 [4, 3]) = true := by kernel_rfl
theorem j12_34 : jointB (script 1 2 [3, 4]) = true := by kernel_rfl
theorem j33_343 : jointB (script 3 3 [3, 4, 3]) = true := by kernel_rfl
theorem j33_414 : jointB (script 3 3 [4, 1, 4]) = true := by kernel_rfl
theorem j12_131 : jointB (script 1 2 [1, 3, 1]) = true := by kernel_rfl
theorem j12_234 : jointB (script 1 2 [2, 3, 4]) = true := by kernel_rfl
theorem j12_341 : jointB (script 1 2 [3, 4, 1]) = true := by kernel_rfl
theorem j21_134 : jointB (script 2 1 [1, 3, 4]) = true := by kernel_rfl
theorem j21_313 : jointB (script 2 1 [3, 1, 3]) = true := by kernel_rfl
theorem j21_344 : jointB (script 2 1 [3, 4, 4]) = true := by kernel_rfl
def pats0 : List (Nat × Nat × List Nat) := [(3, 3, []), (3, 3, [4, 3]), (1, 2, [3, 4]), (3, 3, [3, 4, 3]), (3, 3, [4, 1, 4]), (1, 2, [1, 3, 1]), (1, 2, [2, 3, 4]), (1, 2, [3, 4, 1]), (2, 1, [1, 3, 4]), (2, 1, [3, 1, 3]), (2, 1, [3, 4, 4])]
theorem jall0 : AllJ pats0 := .cons j33_ (.cons j33_43 (.cons j12_34 (.cons j33_343 (.cons j33_414 (.cons j12_131 (.cons j12_234 (.cons j12_341 (.cons j21_134 (.cons j21_313 (.cons j21_344 (.nil)))))))))))
end Go.Proofs.YtbddollbjajcnaaGreat
