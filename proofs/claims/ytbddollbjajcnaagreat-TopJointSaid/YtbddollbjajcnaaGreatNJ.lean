/- The row of TopJoint: what the program forces. (printed by jf.py) -/
import Derived.Test.YtbddollbjajcnaaGreatRows
import Derived.ProofKit
import Derived.KernelRfl
namespace Go.Proofs.YtbddollbjajcnaaGreat
open Go
theorem jf0 : (Rows.topJointRow.wf (OpenSpec.ofChange Rows.topJointSpec)) = true := by kernel_rfl
theorem jf1 : (laidOutB Tryz.prog) = true := by kernel_rfl
theorem jf2 : (mapsRowed Tryz.prog) = true := by kernel_rfl
theorem jf3 : (Tryz.f3.params.all (Tryz.prog.readableRec ·)) = true := by kernel_rfl
theorem jf4 : (namedTie Tryz.prog Rows.topJointRow.named Rows.topJointSpec.vars) = true := by kernel_rfl
theorem jf5 : ((Rows.topJointRow.stops == [])) = true := by kernel_rfl
theorem jf6 : ((Tryz.prog.stops == [])) = true := by kernel_rfl
theorem jf7 : ((Rows.topJointRow.knobs == [])) = true := by kernel_rfl
theorem jf8 : ((Tryz.prog.stopKnobs == [])) = true := by kernel_rfl
theorem jf9 : ((Rows.topJointRow.inPlace == Tryz.prog.inPlace 3)) = true := by kernel_rfl
theorem jf10 : ((Rows.topJointRow.unfollowed == Tryz.prog.unfollowed 3)) = true := by kernel_rfl
theorem jf11 : ((Rows.topJointRow.recurses == Tryz.prog.recurses 3)) = true := by kernel_rfl
theorem jf12 : ((Rows.topJointRow.named == Tryz.prog.varsNamed 3)) = true := by kernel_rfl
theorem jf13 : ((Rows.topJointRow.maps == (Tryz.f3.params.toList ++ Rows.topJointSpec.plain.varTypes Tryz.prog).any (Tryz.prog.mapsRec ·))) = true := by kernel_rfl
theorem jf14 : ((Rows.topJointRow.ifaces == (Tryz.f3.params.toList ++ Rows.topJointSpec.plain.varTypes Tryz.prog).any (Tryz.prog.ifacesRec ·))) = true := by kernel_rfl
theorem jf15 : ((Rows.topJointRow.mapsOut == Tryz.prog.mapsAmong Tryz.f3.resultTypes.toList)) = true := by kernel_rfl
theorem jf16 : ((Rows.topJointRow.loops == (Tryz.f3.params.toList ++ Rows.topJointSpec.plain.varTypes Tryz.prog).any (Tryz.prog.loopsFrom ·))) = true := by kernel_rfl
theorem jf17 : ((Rows.topJointRow.wideKeys == (Tryz.f3.params.toList ++ Rows.topJointSpec.plain.varTypes Tryz.prog ++ Tryz.f3.resultTypes.toList).any (Tryz.prog.wideKeysFrom ·))) = true := by kernel_rfl
theorem jf18 : (Rows.topJointSpec.vars.all (Tryz.prog.varReadable ·)) = true := by kernel_rfl
theorem jf19 : (Tryz.f3.resultTypes.all (fun t => Tryz.prog.readableRec t && decide (t < Tryz.prog.types.size))) = true := by kernel_rfl
theorem jf20 : ((Rows.topJointRow.ifacesOut == Tryz.f3.resultTypes.toList.any (Tryz.prog.ifacesRec ·))) = true := by kernel_rfl
theorem jf21 : ((Rows.topJointRow.loopsOut == Tryz.f3.resultTypes.toList.any (Tryz.prog.loopsFrom ·))) = true := by kernel_rfl
theorem jf22 : ((Rows.topJointRow.plainKeys == Tryz.prog.plainKeys)) = true := by kernel_rfl
theorem jf23 : (Rows.topJointRow.shortTexts.isNone) = true := by kernel_rfl
theorem jf24 : (Tryz.prog.stopsHeard) = true := by kernel_rfl
theorem jf25 : (Tryz.prog.mayEnter) = true := by kernel_rfl
theorem jf26 : ((Rows.topJointRow.lifted == Tryz.prog.liftsFinal)) = true := by kernel_rfl
theorem jf27 : ((Tryz.prog.make == some Rows.topJointRow.make)) = true := by kernel_rfl
theorem jf29 : ((Rows.topJointRow.pinned == Rows.topJointRow.pinnedBy)) = true := by kernel_rfl
theorem jf30 : ((Rows.topJointRow.veiled == (Tryz.f3.params.toList ++ Rows.topJointSpec.plain.varTypes Tryz.prog ++ Tryz.f3.resultTypes.toList).any (Tryz.prog.veiledRec ·))) = true := by kernel_rfl
theorem jf31 : (Rows.topJointRow.veiledFits Tryz.prog Tryz.f3.params.toList (Tryz.f3.params.toList ++ Rows.topJointSpec.plain.varTypes Tryz.prog ++ Tryz.f3.resultTypes.toList)) = true := by kernel_rfl
theorem joint_facts : joinedFacts Tryz.prog 3 Tryz.f3 Rows.topJointSpec Rows.topJointRow = true := by
  unfold joinedFacts
  rw [jf0, jf1, jf2, jf3, jf4, jf5, jf6, jf7, jf8, jf9, jf10, jf11, jf12, jf13, jf14, jf15, jf16, jf17, jf18, jf19, jf20, jf21, jf22, jf23, jf24, jf25, jf26, jf27, jf29, jf30, jf31]
  kernel_rfl
theorem joint_named : Tryz.checked.prog.funcNamed "erasure/erasuretop.TopJoint" = some 3 := by kernel_rfl
end Go.Proofs.YtbddollbjajcnaaGreat
