/-
  No cell of these rows narrows 'for every input' (looked for: loops, veiled, ifaces, maps, wideKeys, modest, calm, conditions, laid).
  DERIVED. THE GIVEN ROWS OF THIS SEAT. 7 by the template 'for every input the law returns true; each argument reads behind the call as it read before'; 0 by the template 'total and deterministic' (their statements: YtafippjpaakonaaTotals.lean).
  GIVEN WITH THE SEED: the statements are not yours to turn. If you find one false, say at which input.
  Laid BY PROGRAM, IN A SANDBOX (cutbox-rows.mjs): the forced cells as the released guide's own fill.sh prints them over the translation d7653a6636e5ff30… (all of the seat's roots in one cut). By AI agents, Wed Nov 11 2026. No macro, syntax, notation, axiom, sorry.
-/
import Derived.Test.YtafippjpaakonaaChecked
import GoSem.Claim
import GoSem.ClaimJoined
import GoSem.ClaimMapViews
import Derived.JoinedTies
import Derived.KernelRfl
namespace Go.Proofs.Ytafippjpaakonaa
/- THE CELL 'sum', in the pinned program and in every row, IS THE sha256 OF THE DUMP (.gsa) THAT YtafippjpaakonaaProg.lean LOADS. Nothing in Lean hashes anything: it is a label: what it is worth is what the hold of that sum in a sandbox is worth. -/
noncomputable def Try.pinned : Pinned := { name := "ytafippjpaakonaa", sum := "d7653a6636e5ff30c02bc587e5e59e936700632acd3e30110163fee1ad4dd3a5", checked := Try.checked }
namespace Rows
def none {H : Type} : Left H := { results := [], args := [] }

/-- 'erasurelaw34.LeaseFull': WHATEVER THE INPUT: true; the input reads as it did. -/
def leaseFullSpec : ChangeSpec := { name := "leaseFull", fn := fun _ => fun
  | [d] => { results := [.lit (.bool true)], args := [d] }
  | _ => none }
def leaseFullRow : OpenClaim := { program := "ytafippjpaakonaa", sum := "d7653a6636e5ff30c02bc587e5e59e936700632acd3e30110163fee1ad4dd3a5", func := "erasure/erasurelaw34.LeaseFull", spec := "leaseFull", inPlace := ["slices.overlaps[erasure/api.Lease]"], unfollowed := true, recurses := true, apart := false }
def LeaseFullSaid : Prop := leaseFullRow.holds Try.pinned (OpenSpec.ofChange leaseFullSpec)

/-- ITS FALSE NEIGHBOUR: 'it returns false'. Refute it at one input. -/
def leaseFullWrong : ChangeSpec := { name := "leaseFull", fn := fun _ => fun
  | [d] => { results := [.lit (.bool false)], args := [d] }
  | _ => none }
def LeaseFullWrongFalsely : Prop := leaseFullRow.holds Try.pinned (OpenSpec.ofChange leaseFullWrong)

/-- 'erasurelaw34.LeaseExpires': WHATEVER THE INPUT: true; the input reads as it did. -/
def leaseExpiresSpec : ChangeSpec := { name := "leaseExpires", fn := fun _ => fun
  | [d1, d2] => { results := [.lit (.bool true)], args := [d1, d2] }
  | _ => none }
def leaseExpiresRow : OpenClaim := { program := "ytafippjpaakonaa", sum := "d7653a6636e5ff30c02bc587e5e59e936700632acd3e30110163fee1ad4dd3a5", func := "erasure/erasurelaw34.LeaseExpires", spec := "leaseExpires", inPlace := ["slices.overlaps[erasure/api.Lease]"], unfollowed := true, recurses := true, apart := false }
def LeaseExpiresSaid : Prop := leaseExpiresRow.holds Try.pinned (OpenSpec.ofChange leaseExpiresSpec)

/-- ITS FALSE NEIGHBOUR: 'it returns false'. Refute it at one input. -/
def leaseExpiresWrong : ChangeSpec := { name := "leaseExpires", fn := fun _ => fun
  | [d1, d2] => { results := [.lit (.bool false)], args := [d1, d2] }
  | _ => none }
def LeaseExpiresWrongFalsely : Prop := leaseExpiresRow.holds Try.pinned (OpenSpec.ofChange leaseExpiresWrong)

/-- 'erasurelaw34.LeaseExclusive': WHATEVER THE INPUT: true; the input reads as it did. -/
def leaseExclusiveSpec : ChangeSpec := { name := "leaseExclusive", fn := fun _ => fun
  | [d1, d2, d3] => { results := [.lit (.bool true)], args := [d1, d2, d3] }
  | _ => none }
def leaseExclusiveRow : OpenClaim := { program := "ytafippjpaakonaa", sum := "d7653a6636e5ff30c02bc587e5e59e936700632acd3e30110163fee1ad4dd3a5", func := "erasure/erasurelaw34.LeaseExclusive", spec := "leaseExclusive", inPlace := ["slices.overlaps[erasure/api.Lease]"], unfollowed := true, recurses := true, apart := false }
def LeaseExclusiveSaid : Prop := leaseExclusiveRow.holds Try.pinned (OpenSpec.ofChange leaseExclusiveSpec)

/-- ITS FALSE NEIGHBOUR: 'it returns false'. Refute it at one input. -/
def leaseExclusiveWrong : ChangeSpec := { name := "leaseExclusive", fn := fun _ => fun
  | [d1, d2, d3] => { results := [.lit (.bool false)], args := [d1, d2, d3] }
  | _ => none }
def LeaseExclusiveWrongFalsely : Prop := leaseExclusiveRow.holds Try.pinned (OpenSpec.ofChange leaseExclusiveWrong)

/-- 'erasurelaw34.LeaseTokens': WHATEVER THE INPUT: true; the input reads as it did. -/
def leaseTokensSpec : ChangeSpec := { name := "leaseTokens", fn := fun _ => fun
  | [d] => { results := [.lit (.bool true)], args := [d] }
  | _ => none }
def leaseTokensRow : OpenClaim := { program := "ytafippjpaakonaa", sum := "d7653a6636e5ff30c02bc587e5e59e936700632acd3e30110163fee1ad4dd3a5", func := "erasure/erasurelaw34.LeaseTokens", spec := "leaseTokens", inPlace := ["slices.overlaps[erasure/api.Lease]"], unfollowed := true, recurses := true, apart := false }
def LeaseTokensSaid : Prop := leaseTokensRow.holds Try.pinned (OpenSpec.ofChange leaseTokensSpec)

/-- ITS FALSE NEIGHBOUR: 'it returns false'. Refute it at one input. -/
def leaseTokensWrong : ChangeSpec := { name := "leaseTokens", fn := fun _ => fun
  | [d] => { results := [.lit (.bool false)], args := [d] }
  | _ => none }
def LeaseTokensWrongFalsely : Prop := leaseTokensRow.holds Try.pinned (OpenSpec.ofChange leaseTokensWrong)

/-- 'erasurelaw34.LeasePlays': WHATEVER THE INPUT: true; the input reads as it did. -/
def leasePlaysSpec : ChangeSpec := { name := "leasePlays", fn := fun _ => fun
  | [d] => { results := [.lit (.bool true)], args := [d] }
  | _ => none }
def leasePlaysRow : OpenClaim := { program := "ytafippjpaakonaa", sum := "d7653a6636e5ff30c02bc587e5e59e936700632acd3e30110163fee1ad4dd3a5", func := "erasure/erasurelaw34.LeasePlays", spec := "leasePlays", inPlace := ["slices.overlaps[erasure/api.Lease]"], unfollowed := true, recurses := true, apart := false }
def LeasePlaysSaid : Prop := leasePlaysRow.holds Try.pinned (OpenSpec.ofChange leasePlaysSpec)

/-- ITS FALSE NEIGHBOUR: 'it returns false'. Refute it at one input. -/
def leasePlaysWrong : ChangeSpec := { name := "leasePlays", fn := fun _ => fun
  | [d] => { results := [.lit (.bool false)], args := [d] }
  | _ => none }
def LeasePlaysWrongFalsely : Prop := leasePlaysRow.holds Try.pinned (OpenSpec.ofChange leasePlaysWrong)

/-- 'erasurelaw34.LeaseRaw': WHATEVER THE INPUT: true; the input reads as it did. -/
def leaseRawSpec : ChangeSpec := { name := "leaseRaw", fn := fun _ => fun
  | [d1, d2] => { results := [.lit (.bool true)], args := [d1, d2] }
  | _ => none }
def leaseRawRow : OpenClaim := { program := "ytafippjpaakonaa", sum := "d7653a6636e5ff30c02bc587e5e59e936700632acd3e30110163fee1ad4dd3a5", func := "erasure/erasurelaw34.LeaseRaw", spec := "leaseRaw", inPlace := ["slices.overlaps[erasure/api.Lease]"], unfollowed := true, recurses := true, apart := false }
def LeaseRawSaid : Prop := leaseRawRow.holds Try.pinned (OpenSpec.ofChange leaseRawSpec)

/-- ITS FALSE NEIGHBOUR: 'it returns false'. Refute it at one input. -/
def leaseRawWrong : ChangeSpec := { name := "leaseRaw", fn := fun _ => fun
  | [d1, d2] => { results := [.lit (.bool false)], args := [d1, d2] }
  | _ => none }
def LeaseRawWrongFalsely : Prop := leaseRawRow.holds Try.pinned (OpenSpec.ofChange leaseRawWrong)

/-- 'erasurelaw34.LeaseOthers': WHATEVER THE INPUT: true; the input reads as it did. -/
def leaseOthersSpec : ChangeSpec := { name := "leaseOthers", fn := fun _ => fun
  | [d1, d2, d3] => { results := [.lit (.bool true)], args := [d1, d2, d3] }
  | _ => none }
def leaseOthersRow : OpenClaim := { program := "ytafippjpaakonaa", sum := "d7653a6636e5ff30c02bc587e5e59e936700632acd3e30110163fee1ad4dd3a5", func := "erasure/erasurelaw34.LeaseOthers", spec := "leaseOthers", inPlace := ["slices.overlaps[erasure/api.Lease]"], unfollowed := true, recurses := true, apart := false }
def LeaseOthersSaid : Prop := leaseOthersRow.holds Try.pinned (OpenSpec.ofChange leaseOthersSpec)

/-- ITS FALSE NEIGHBOUR: 'it returns false'. Refute it at one input. -/
def leaseOthersWrong : ChangeSpec := { name := "leaseOthers", fn := fun _ => fun
  | [d1, d2, d3] => { results := [.lit (.bool false)], args := [d1, d2, d3] }
  | _ => none }
def LeaseOthersWrongFalsely : Prop := leaseOthersRow.holds Try.pinned (OpenSpec.ofChange leaseOthersWrong)

/- THE SECOND FORM. 'bulk': how many values and letters a reading holds, each counted each time it is reached (what is shared counts as often as it is met; a slice's spare places count too). A statement '..UptoSaid' is the law's where the arguments, and the package variables that the reading takes, are together of bulk at most 1048576: NARROWER than '..Said'. Prove '..Said' where nothing that the law and all that it calls make is longer than what came in: it says more and counts as full. Else prove '..UptoSaid'. A law counts once. -/
mutual
def uptoBulk {H : Type} : DataW H → Nat
  | .lit (.string bytes) => bytes.length + 1
  | .lit _ => 1
  | .nil => 1
  | .ptr d => uptoBulk d + 1
  | .slice elems spare => uptoBulkAll elems + uptoBulkAll spare + 1
  | .agg parts => uptoBulkAll parts + 1
  | .iface _ d => uptoBulk d + 1
  | .map entries => uptoBulkEntries entries + 1
  | .held _ => 1
def uptoBulkAll {H : Type} : List (DataW H) → Nat
  | [] => 0
  | d :: r => uptoBulk d + uptoBulkAll r
def uptoBulkEntries {H : Type} : List (Lit × DataW H) → Nat
  | [] => 0
  | x :: r => uptoBulkEntry x + uptoBulkEntries r
def uptoBulkEntry {H : Type} : Lit × DataW H → Nat
  | (.string bytes, d) => bytes.length + uptoBulk d + 1
  | (_, d) => uptoBulk d + 1
 end
def uptoSmall : (H : Type) → List (DataW H) → Bool := fun _ ds => decide (uptoBulkAll ds ≤ 1048576)
def OpenSpec.upto (s : _root_.Go.ChangeSpec) : _root_.Go.OpenSpec := { _root_.Go.OpenSpec.ofChange s with cond := some uptoSmall }

/-- 'erasurelaw34.LeaseFull', WHERE WHAT IT READS IS OF BULK AT MOST 1048576: true; the input reads as it did. -/
def leaseFullUptoRow : OpenClaim := { program := "ytafippjpaakonaa", sum := "d7653a6636e5ff30c02bc587e5e59e936700632acd3e30110163fee1ad4dd3a5", func := "erasure/erasurelaw34.LeaseFull", spec := "leaseFull", inPlace := ["slices.overlaps[erasure/api.Lease]"], unfollowed := true, recurses := true, apart := false, narrowed := true }
def LeaseFullUptoSaid : Prop := leaseFullUptoRow.holds Try.pinned (OpenSpec.upto leaseFullSpec)

/-- 'erasurelaw34.LeaseExpires', WHERE WHAT IT READS IS OF BULK AT MOST 1048576: true; the input reads as it did. -/
def leaseExpiresUptoRow : OpenClaim := { program := "ytafippjpaakonaa", sum := "d7653a6636e5ff30c02bc587e5e59e936700632acd3e30110163fee1ad4dd3a5", func := "erasure/erasurelaw34.LeaseExpires", spec := "leaseExpires", inPlace := ["slices.overlaps[erasure/api.Lease]"], unfollowed := true, recurses := true, apart := false, narrowed := true }
def LeaseExpiresUptoSaid : Prop := leaseExpiresUptoRow.holds Try.pinned (OpenSpec.upto leaseExpiresSpec)

/-- 'erasurelaw34.LeaseExclusive', WHERE WHAT IT READS IS OF BULK AT MOST 1048576: true; the input reads as it did. -/
def leaseExclusiveUptoRow : OpenClaim := { program := "ytafippjpaakonaa", sum := "d7653a6636e5ff30c02bc587e5e59e936700632acd3e30110163fee1ad4dd3a5", func := "erasure/erasurelaw34.LeaseExclusive", spec := "leaseExclusive", inPlace := ["slices.overlaps[erasure/api.Lease]"], unfollowed := true, recurses := true, apart := false, narrowed := true }
def LeaseExclusiveUptoSaid : Prop := leaseExclusiveUptoRow.holds Try.pinned (OpenSpec.upto leaseExclusiveSpec)

/-- 'erasurelaw34.LeaseTokens', WHERE WHAT IT READS IS OF BULK AT MOST 1048576: true; the input reads as it did. -/
def leaseTokensUptoRow : OpenClaim := { program := "ytafippjpaakonaa", sum := "d7653a6636e5ff30c02bc587e5e59e936700632acd3e30110163fee1ad4dd3a5", func := "erasure/erasurelaw34.LeaseTokens", spec := "leaseTokens", inPlace := ["slices.overlaps[erasure/api.Lease]"], unfollowed := true, recurses := true, apart := false, narrowed := true }
def LeaseTokensUptoSaid : Prop := leaseTokensUptoRow.holds Try.pinned (OpenSpec.upto leaseTokensSpec)

/-- 'erasurelaw34.LeasePlays', WHERE WHAT IT READS IS OF BULK AT MOST 1048576: true; the input reads as it did. -/
def leasePlaysUptoRow : OpenClaim := { program := "ytafippjpaakonaa", sum := "d7653a6636e5ff30c02bc587e5e59e936700632acd3e30110163fee1ad4dd3a5", func := "erasure/erasurelaw34.LeasePlays", spec := "leasePlays", inPlace := ["slices.overlaps[erasure/api.Lease]"], unfollowed := true, recurses := true, apart := false, narrowed := true }
def LeasePlaysUptoSaid : Prop := leasePlaysUptoRow.holds Try.pinned (OpenSpec.upto leasePlaysSpec)

/-- 'erasurelaw34.LeaseRaw', WHERE WHAT IT READS IS OF BULK AT MOST 1048576: true; the input reads as it did. -/
def leaseRawUptoRow : OpenClaim := { program := "ytafippjpaakonaa", sum := "d7653a6636e5ff30c02bc587e5e59e936700632acd3e30110163fee1ad4dd3a5", func := "erasure/erasurelaw34.LeaseRaw", spec := "leaseRaw", inPlace := ["slices.overlaps[erasure/api.Lease]"], unfollowed := true, recurses := true, apart := false, narrowed := true }
def LeaseRawUptoSaid : Prop := leaseRawUptoRow.holds Try.pinned (OpenSpec.upto leaseRawSpec)

/-- 'erasurelaw34.LeaseOthers', WHERE WHAT IT READS IS OF BULK AT MOST 1048576: true; the input reads as it did. -/
def leaseOthersUptoRow : OpenClaim := { program := "ytafippjpaakonaa", sum := "d7653a6636e5ff30c02bc587e5e59e936700632acd3e30110163fee1ad4dd3a5", func := "erasure/erasurelaw34.LeaseOthers", spec := "leaseOthers", inPlace := ["slices.overlaps[erasure/api.Lease]"], unfollowed := true, recurses := true, apart := false, narrowed := true }
def LeaseOthersUptoSaid : Prop := leaseOthersUptoRow.holds Try.pinned (OpenSpec.upto leaseOthersSpec)

end Rows
end Go.Proofs.Ytafippjpaakonaa
