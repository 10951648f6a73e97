/- TopJoint: some patterns, run. (printed by nr.py) -/
import Derived.Test.YtbddollbjajcnaaGreatNE
namespace Go.Proofs.YtbddollbjajcnaaGreat
open Go
theorem j12_3 : jointB (script 1 2 [3]) = true := by kernel_rfl
theorem j12_21 : jointB (script 1 2 [2, 1]) = true := by kernel_rfl
theorem j21_31 : jointB (script 2 1 [3, 1]) = true := by kernel_rfl
theorem j33_432 : jointB (script 3 3 [4, 3, 2]) = true := by kernel_rfl
theorem j12_111 : jointB (script 1 2 [1, 1, 1]) = true := by kernel_rfl
theorem j12_221 : jointB (script 1 2 [2, 2, 1]) = true := by kernel_rfl
theorem j12_323 : jointB (script 1 2 [3, 2, 3]) = true := by kernel_rfl
theorem j21_121 : jointB (script 2 1 [1, 2, 1]) = true := by kernel_rfl
theorem j21_231 : jointB (script 2 1 [2, 3, 1]) = true := by kernel_rfl
theorem j21_332 : jointB (script 2 1 [3, 3, 2]) = true := by kernel_rfl
def pats7 : List (Nat × Nat × List Nat) := [(1, 2, [3]), (1, 2, [2, 1]), (2, 1, [3, 1]), (3, 3, [4, 3, 2]), (1, 2, [1, 1, 1]), (1, 2, [2, 2, 1]), (1, 2, [3, 2, 3]), (2, 1, [1, 2, 1]), (2, 1, [2, 3, 1]), (2, 1, [3, 3, 2])]
theorem jall7 : AllJ pats7 := .cons j12_3 (.cons j12_21 (.cons j21_31 (.cons j33_432 (.cons j12_111 (.cons j12_221 (.cons j12_323 (.cons j21_121 (.cons j21_231 (.cons j21_332 (.nil))))))))))
end Go.Proofs.YtbddollbjajcnaaGreat
