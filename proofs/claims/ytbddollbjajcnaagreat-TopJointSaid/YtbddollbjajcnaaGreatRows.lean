/-
  No cell of these rows narrows 'for every input' (looked for: loops, veiled, ifaces, maps, wideKeys, modest, calm, conditions, laid).
  DERIVED. THE GIVEN ROWS OF THIS SEAT. 4 by the template 'for every input the law returns true; each argument reads behind the call as it read before'; 0 by the template 'total and deterministic' (their statements: YtbddollbjajcnaaGreatTotals.lean).
  GIVEN WITH THE SEED: the statements are not yours to turn. If you find one false, say at which input.
  Laid BY PROGRAM, IN A SANDBOX (cutbox-rows.mjs): the forced cells as the released guide's own fill.sh prints them over the translation bed04732a8a2be5a… (all of the seat's roots in one cut). By AI agents, Wed Nov 11 2026. No macro, syntax, notation, axiom, sorry.
-/
import Derived.Test.YtbddollbjajcnaaGreatChecked
import GoSem.Claim
import GoSem.ClaimJoined
import GoSem.ClaimMapViews
import Derived.JoinedTies
import Derived.KernelRfl
namespace Go.Proofs.YtbddollbjajcnaaGreat
/- THE CELL 'sum', in the pinned program and in every row, IS THE sha256 OF THE DUMP (.gsa) THAT YtbddollbjajcnaaGreatProg.lean LOADS. Nothing in Lean hashes anything: it is a label: what it is worth is what the hold of that sum in a sandbox is worth. -/
noncomputable def Tryz.pinned : Pinned := { name := "ytbddollbjajcnaagreat", sum := "bed04732a8a2be5a794b0a5dfaacc1c9ebd8b687ce99019b9d19fa75a3ba0db2", checked := Tryz.checked }
namespace Rows
def none {H : Type} : Left H := { results := [], args := [] }

/-- 'erasuretop.TopJoint': WHATEVER THE INPUT: true; the input reads as it did. -/
def topJointSpec : ChangeSpec := { name := "topJoint", fn := fun _ => fun
  | [d] => { results := [.lit (.bool true)], args := [d] }
  | _ => none }
def topJointRow : OpenClaim := { program := "ytbddollbjajcnaagreat", sum := "bed04732a8a2be5a794b0a5dfaacc1c9ebd8b687ce99019b9d19fa75a3ba0db2", func := "erasure/erasuretop.TopJoint", spec := "topJoint", inPlace := ["internal/bytealg.abigen_runtime_cmpstring", "slices.overlaps[erasure/api.Record]"], unfollowed := true, recurses := true, plainKeys := false, apart := false }
def TopJointSaid : Prop := topJointRow.holds Tryz.pinned (OpenSpec.ofChange topJointSpec)

/-- ITS FALSE NEIGHBOUR: 'it returns false'. Refute it at one input. -/
def topJointWrong : ChangeSpec := { name := "topJoint", fn := fun _ => fun
  | [d] => { results := [.lit (.bool false)], args := [d] }
  | _ => none }
def TopJointWrongFalsely : Prop := topJointRow.holds Tryz.pinned (OpenSpec.ofChange topJointWrong)

/-- 'erasuretop.TopSubject': WHATEVER THE INPUT: true; the input reads as it did. -/
def topSubjectSpec : ChangeSpec := { name := "topSubject", fn := fun _ => fun
  | [d] => { results := [.lit (.bool true)], args := [d] }
  | _ => none }
def topSubjectRow : OpenClaim := { program := "ytbddollbjajcnaagreat", sum := "bed04732a8a2be5a794b0a5dfaacc1c9ebd8b687ce99019b9d19fa75a3ba0db2", func := "erasure/erasuretop.TopSubject", spec := "topSubject", inPlace := ["internal/bytealg.abigen_runtime_cmpstring", "slices.overlaps[erasure/api.Record]"], unfollowed := true, recurses := true, plainKeys := false, apart := false }
def TopSubjectSaid : Prop := topSubjectRow.holds Tryz.pinned (OpenSpec.ofChange topSubjectSpec)

/-- ITS FALSE NEIGHBOUR: 'it returns false'. Refute it at one input. -/
def topSubjectWrong : ChangeSpec := { name := "topSubject", fn := fun _ => fun
  | [d] => { results := [.lit (.bool false)], args := [d] }
  | _ => none }
def TopSubjectWrongFalsely : Prop := topSubjectRow.holds Tryz.pinned (OpenSpec.ofChange topSubjectWrong)

/-- 'erasuretop.TopOthers': WHATEVER THE INPUT: true; the input reads as it did. -/
def topOthersSpec : ChangeSpec := { name := "topOthers", fn := fun _ => fun
  | [d] => { results := [.lit (.bool true)], args := [d] }
  | _ => none }
def topOthersRow : OpenClaim := { program := "ytbddollbjajcnaagreat", sum := "bed04732a8a2be5a794b0a5dfaacc1c9ebd8b687ce99019b9d19fa75a3ba0db2", func := "erasure/erasuretop.TopOthers", spec := "topOthers", inPlace := ["internal/bytealg.abigen_runtime_cmpstring", "slices.overlaps[erasure/api.Record]"], unfollowed := true, recurses := true, plainKeys := false, apart := false }
def TopOthersSaid : Prop := topOthersRow.holds Tryz.pinned (OpenSpec.ofChange topOthersSpec)

/-- ITS FALSE NEIGHBOUR: 'it returns false'. Refute it at one input. -/
def topOthersWrong : ChangeSpec := { name := "topOthers", fn := fun _ => fun
  | [d] => { results := [.lit (.bool false)], args := [d] }
  | _ => none }
def TopOthersWrongFalsely : Prop := topOthersRow.holds Tryz.pinned (OpenSpec.ofChange topOthersWrong)

/-- 'erasuretop.TopLate': WHATEVER THE INPUT: true; the input reads as it did. -/
def topLateSpec : ChangeSpec := { name := "topLate", fn := fun _ => fun
  | [d] => { results := [.lit (.bool true)], args := [d] }
  | _ => none }
def topLateRow : OpenClaim := { program := "ytbddollbjajcnaagreat", sum := "bed04732a8a2be5a794b0a5dfaacc1c9ebd8b687ce99019b9d19fa75a3ba0db2", func := "erasure/erasuretop.TopLate", spec := "topLate", inPlace := ["internal/bytealg.abigen_runtime_cmpstring", "slices.overlaps[erasure/api.Record]"], unfollowed := true, recurses := true, plainKeys := false, apart := false }
def TopLateSaid : Prop := topLateRow.holds Tryz.pinned (OpenSpec.ofChange topLateSpec)

/-- ITS FALSE NEIGHBOUR: 'it returns false'. Refute it at one input. -/
def topLateWrong : ChangeSpec := { name := "topLate", fn := fun _ => fun
  | [d] => { results := [.lit (.bool false)], args := [d] }
  | _ => none }
def TopLateWrongFalsely : Prop := topLateRow.holds Tryz.pinned (OpenSpec.ofChange topLateWrong)

/- THE SECOND FORM. 'bulk': how many values and letters a reading holds, each counted each time it is reached (what is shared counts as often as it is met; a slice's spare places count too). A statement '..UptoSaid' is the law's where the arguments, and the package variables that the reading takes, are together of bulk at most 1048576: NARROWER than '..Said'. Prove '..Said' where nothing that the law and all that it calls make is longer than what came in: it says more and counts as full. Else prove '..UptoSaid'. A law counts once. -/
mutual
def uptoBulk {H : Type} : DataW H → Nat
  | .lit (.string bytes) => bytes.length + 1
  | .lit _ => 1
  | .nil => 1
  | .ptr d => uptoBulk d + 1
  | .slice elems spare => uptoBulkAll elems + uptoBulkAll spare + 1
  | .agg parts => uptoBulkAll parts + 1
  | .iface _ d => uptoBulk d + 1
  | .map entries => uptoBulkEntries entries + 1
  | .held _ => 1
def uptoBulkAll {H : Type} : List (DataW H) → Nat
  | [] => 0
  | d :: r => uptoBulk d + uptoBulkAll r
def uptoBulkEntries {H : Type} : List (Lit × DataW H) → Nat
  | [] => 0
  | x :: r => uptoBulkEntry x + uptoBulkEntries r
def uptoBulkEntry {H : Type} : Lit × DataW H → Nat
  | (.string bytes, d) => bytes.length + uptoBulk d + 1
  | (_, d) => uptoBulk d + 1
 end
def uptoSmall : (H : Type) → List (DataW H) → Bool := fun _ ds => decide (uptoBulkAll ds ≤ 1048576)
def OpenSpec.upto (s : _root_.Go.ChangeSpec) : _root_.Go.OpenSpec := { _root_.Go.OpenSpec.ofChange s with cond := some uptoSmall }

/-- 'erasuretop.TopJoint', WHERE WHAT IT READS IS OF BULK AT MOST 1048576: true; the input reads as it did. -/
def topJointUptoRow : OpenClaim := { program := "ytbddollbjajcnaagreat", sum := "bed04732a8a2be5a794b0a5dfaacc1c9ebd8b687ce99019b9d19fa75a3ba0db2", func := "erasure/erasuretop.TopJoint", spec := "topJoint", inPlace := ["internal/bytealg.abigen_runtime_cmpstring", "slices.overlaps[erasure/api.Record]"], unfollowed := true, recurses := true, plainKeys := false, apart := false, narrowed := true }
def TopJointUptoSaid : Prop := topJointUptoRow.holds Tryz.pinned (OpenSpec.upto topJointSpec)

/-- 'erasuretop.TopSubject', WHERE WHAT IT READS IS OF BULK AT MOST 1048576: true; the input reads as it did. -/
def topSubjectUptoRow : OpenClaim := { program := "ytbddollbjajcnaagreat", sum := "bed04732a8a2be5a794b0a5dfaacc1c9ebd8b687ce99019b9d19fa75a3ba0db2", func := "erasure/erasuretop.TopSubject", spec := "topSubject", inPlace := ["internal/bytealg.abigen_runtime_cmpstring", "slices.overlaps[erasure/api.Record]"], unfollowed := true, recurses := true, plainKeys := false, apart := false, narrowed := true }
def TopSubjectUptoSaid : Prop := topSubjectUptoRow.holds Tryz.pinned (OpenSpec.upto topSubjectSpec)

/-- 'erasuretop.TopOthers', WHERE WHAT IT READS IS OF BULK AT MOST 1048576: true; the input reads as it did. -/
def topOthersUptoRow : OpenClaim := { program := "ytbddollbjajcnaagreat", sum := "bed04732a8a2be5a794b0a5dfaacc1c9ebd8b687ce99019b9d19fa75a3ba0db2", func := "erasure/erasuretop.TopOthers", spec := "topOthers", inPlace := ["internal/bytealg.abigen_runtime_cmpstring", "slices.overlaps[erasure/api.Record]"], unfollowed := true, recurses := true, plainKeys := false, apart := false, narrowed := true }
def TopOthersUptoSaid : Prop := topOthersUptoRow.holds Tryz.pinned (OpenSpec.upto topOthersSpec)

/-- 'erasuretop.TopLate', WHERE WHAT IT READS IS OF BULK AT MOST 1048576: true; the input reads as it did. -/
def topLateUptoRow : OpenClaim := { program := "ytbddollbjajcnaagreat", sum := "bed04732a8a2be5a794b0a5dfaacc1c9ebd8b687ce99019b9d19fa75a3ba0db2", func := "erasure/erasuretop.TopLate", spec := "topLate", inPlace := ["internal/bytealg.abigen_runtime_cmpstring", "slices.overlaps[erasure/api.Record]"], unfollowed := true, recurses := true, plainKeys := false, apart := false, narrowed := true }
def TopLateUptoSaid : Prop := topLateUptoRow.holds Tryz.pinned (OpenSpec.upto topLateSpec)

end Rows
end Go.Proofs.YtbddollbjajcnaaGreat
