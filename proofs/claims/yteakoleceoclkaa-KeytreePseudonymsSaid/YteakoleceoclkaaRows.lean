/-
  No cell of these rows narrows 'for every input' (looked for: loops, veiled, ifaces, maps, wideKeys, modest, calm, conditions, laid).
  DERIVED. THE GIVEN ROWS OF THIS SEAT. 14 by the template 'for every input the law returns true; each argument reads behind the call as it read before'; 0 by the template 'total and deterministic' (their statements: YteakoleceoclkaaTotals.lean).
  GIVEN WITH THE SEED: the statements are not yours to turn. If you find one false, say at which input.
  Laid BY PROGRAM, IN A SANDBOX (cutbox-rows.mjs): the forced cells as the released guide's own fill.sh prints them over the translation 7d3bb118ebbe22ea… (all of the seat's roots in one cut). By AI agents, Wed Nov 11 2026. No macro, syntax, notation, axiom, sorry.
-/
import Derived.Test.YteakoleceoclkaaChecked
import GoSem.Claim
import GoSem.ClaimJoined
import GoSem.ClaimMapViews
import Derived.JoinedTies
import Derived.KernelRfl
namespace Go.Proofs.Yteakoleceoclkaa
/- THE CELL 'sum', in the pinned program and in every row, IS THE sha256 OF THE DUMP (.gsa) THAT YteakoleceoclkaaProg.lean LOADS. Nothing in Lean hashes anything: it is a label: what it is worth is what the hold of that sum in a sandbox is worth. -/
noncomputable def Try.pinned : Pinned := { name := "yteakoleceoclkaa", sum := "7d3bb118ebbe22ea020aac68d538a15a97f6fa55e18a3ec8d1af7a35607cc9e6", checked := Try.checked }
namespace Rows
def none {H : Type} : Left H := { results := [], args := [] }

/-- 'erasurelaw27.KeytreeAddresses': WHATEVER THE INPUT: true; the input reads as it did. -/
def keytreeAddressesSpec : ChangeSpec := { name := "keytreeAddresses", fn := fun _ => fun
  | [d1, d2] => { results := [.lit (.bool true)], args := [d1, d2] }
  | _ => none }
def keytreeAddressesRow : OpenClaim := { program := "yteakoleceoclkaa", sum := "7d3bb118ebbe22ea020aac68d538a15a97f6fa55e18a3ec8d1af7a35607cc9e6", func := "erasure/erasurelaw27.KeytreeAddresses", spec := "keytreeAddresses", unfollowed := true, recurses := true, apart := false }
def KeytreeAddressesSaid : Prop := keytreeAddressesRow.holds Try.pinned (OpenSpec.ofChange keytreeAddressesSpec)

/-- ITS FALSE NEIGHBOUR: 'it returns false'. Refute it at one input. -/
def keytreeAddressesWrong : ChangeSpec := { name := "keytreeAddresses", fn := fun _ => fun
  | [d1, d2] => { results := [.lit (.bool false)], args := [d1, d2] }
  | _ => none }
def KeytreeAddressesWrongFalsely : Prop := keytreeAddressesRow.holds Try.pinned (OpenSpec.ofChange keytreeAddressesWrong)

/-- 'erasurelaw27.KeytreeLeaves': WHATEVER THE INPUT: true; the input reads as it did. -/
def keytreeLeavesSpec : ChangeSpec := { name := "keytreeLeaves", fn := fun _ => fun
  | [d1, d2] => { results := [.lit (.bool true)], args := [d1, d2] }
  | _ => none }
def keytreeLeavesRow : OpenClaim := { program := "yteakoleceoclkaa", sum := "7d3bb118ebbe22ea020aac68d538a15a97f6fa55e18a3ec8d1af7a35607cc9e6", func := "erasure/erasurelaw27.KeytreeLeaves", spec := "keytreeLeaves", unfollowed := true, recurses := true, apart := false }
def KeytreeLeavesSaid : Prop := keytreeLeavesRow.holds Try.pinned (OpenSpec.ofChange keytreeLeavesSpec)

/-- ITS FALSE NEIGHBOUR: 'it returns false'. Refute it at one input. -/
def keytreeLeavesWrong : ChangeSpec := { name := "keytreeLeaves", fn := fun _ => fun
  | [d1, d2] => { results := [.lit (.bool false)], args := [d1, d2] }
  | _ => none }
def KeytreeLeavesWrongFalsely : Prop := keytreeLeavesRow.holds Try.pinned (OpenSpec.ofChange keytreeLeavesWrong)

/-- 'erasurelaw27.KeytreePunctures': WHATEVER THE INPUT: true; the input reads as it did. -/
def keytreePuncturesSpec : ChangeSpec := { name := "keytreePunctures", fn := fun _ => fun
  | [d1, d2] => { results := [.lit (.bool true)], args := [d1, d2] }
  | _ => none }
def keytreePuncturesRow : OpenClaim := { program := "yteakoleceoclkaa", sum := "7d3bb118ebbe22ea020aac68d538a15a97f6fa55e18a3ec8d1af7a35607cc9e6", func := "erasure/erasurelaw27.KeytreePunctures", spec := "keytreePunctures", unfollowed := true, recurses := true, apart := false }
def KeytreePuncturesSaid : Prop := keytreePuncturesRow.holds Try.pinned (OpenSpec.ofChange keytreePuncturesSpec)

/-- ITS FALSE NEIGHBOUR: 'it returns false'. Refute it at one input. -/
def keytreePuncturesWrong : ChangeSpec := { name := "keytreePunctures", fn := fun _ => fun
  | [d1, d2] => { results := [.lit (.bool false)], args := [d1, d2] }
  | _ => none }
def KeytreePuncturesWrongFalsely : Prop := keytreePuncturesRow.holds Try.pinned (OpenSpec.ofChange keytreePuncturesWrong)

/-- 'erasurelaw27.KeytreeOrder': WHATEVER THE INPUT: true; the input reads as it did. -/
def keytreeOrderSpec : ChangeSpec := { name := "keytreeOrder", fn := fun _ => fun
  | [d1, d2, d3] => { results := [.lit (.bool true)], args := [d1, d2, d3] }
  | _ => none }
def keytreeOrderRow : OpenClaim := { program := "yteakoleceoclkaa", sum := "7d3bb118ebbe22ea020aac68d538a15a97f6fa55e18a3ec8d1af7a35607cc9e6", func := "erasure/erasurelaw27.KeytreeOrder", spec := "keytreeOrder", unfollowed := true, recurses := true, apart := false }
def KeytreeOrderSaid : Prop := keytreeOrderRow.holds Try.pinned (OpenSpec.ofChange keytreeOrderSpec)

/-- ITS FALSE NEIGHBOUR: 'it returns false'. Refute it at one input. -/
def keytreeOrderWrong : ChangeSpec := { name := "keytreeOrder", fn := fun _ => fun
  | [d1, d2, d3] => { results := [.lit (.bool false)], args := [d1, d2, d3] }
  | _ => none }
def KeytreeOrderWrongFalsely : Prop := keytreeOrderRow.holds Try.pinned (OpenSpec.ofChange keytreeOrderWrong)

/-- 'erasurelaw27.KeytreeAgain': WHATEVER THE INPUT: true; the input reads as it did. -/
def keytreeAgainSpec : ChangeSpec := { name := "keytreeAgain", fn := fun _ => fun
  | [d1, d2] => { results := [.lit (.bool true)], args := [d1, d2] }
  | _ => none }
def keytreeAgainRow : OpenClaim := { program := "yteakoleceoclkaa", sum := "7d3bb118ebbe22ea020aac68d538a15a97f6fa55e18a3ec8d1af7a35607cc9e6", func := "erasure/erasurelaw27.KeytreeAgain", spec := "keytreeAgain", unfollowed := true, recurses := true, apart := false }
def KeytreeAgainSaid : Prop := keytreeAgainRow.holds Try.pinned (OpenSpec.ofChange keytreeAgainSpec)

/-- ITS FALSE NEIGHBOUR: 'it returns false'. Refute it at one input. -/
def keytreeAgainWrong : ChangeSpec := { name := "keytreeAgain", fn := fun _ => fun
  | [d1, d2] => { results := [.lit (.bool false)], args := [d1, d2] }
  | _ => none }
def KeytreeAgainWrongFalsely : Prop := keytreeAgainRow.holds Try.pinned (OpenSpec.ofChange keytreeAgainWrong)

/-- 'erasurelaw27.KeytreeKeeps': WHATEVER THE INPUT: true; the input reads as it did. -/
def keytreeKeepsSpec : ChangeSpec := { name := "keytreeKeeps", fn := fun _ => fun
  | [d1, d2, d3] => { results := [.lit (.bool true)], args := [d1, d2, d3] }
  | _ => none }
def keytreeKeepsRow : OpenClaim := { program := "yteakoleceoclkaa", sum := "7d3bb118ebbe22ea020aac68d538a15a97f6fa55e18a3ec8d1af7a35607cc9e6", func := "erasure/erasurelaw27.KeytreeKeeps", spec := "keytreeKeeps", unfollowed := true, recurses := true, apart := false }
def KeytreeKeepsSaid : Prop := keytreeKeepsRow.holds Try.pinned (OpenSpec.ofChange keytreeKeepsSpec)

/-- ITS FALSE NEIGHBOUR: 'it returns false'. Refute it at one input. -/
def keytreeKeepsWrong : ChangeSpec := { name := "keytreeKeeps", fn := fun _ => fun
  | [d1, d2, d3] => { results := [.lit (.bool false)], args := [d1, d2, d3] }
  | _ => none }
def KeytreeKeepsWrongFalsely : Prop := keytreeKeepsRow.holds Try.pinned (OpenSpec.ofChange keytreeKeepsWrong)

/-- 'erasurelaw27.KeytreeGaps': WHATEVER THE INPUT: true; the input reads as it did. -/
def keytreeGapsSpec : ChangeSpec := { name := "keytreeGaps", fn := fun _ => fun
  | [d1, d2] => { results := [.lit (.bool true)], args := [d1, d2] }
  | _ => none }
def keytreeGapsRow : OpenClaim := { program := "yteakoleceoclkaa", sum := "7d3bb118ebbe22ea020aac68d538a15a97f6fa55e18a3ec8d1af7a35607cc9e6", func := "erasure/erasurelaw27.KeytreeGaps", spec := "keytreeGaps", unfollowed := true, recurses := true, apart := false }
def KeytreeGapsSaid : Prop := keytreeGapsRow.holds Try.pinned (OpenSpec.ofChange keytreeGapsSpec)

/-- ITS FALSE NEIGHBOUR: 'it returns false'. Refute it at one input. -/
def keytreeGapsWrong : ChangeSpec := { name := "keytreeGaps", fn := fun _ => fun
  | [d1, d2] => { results := [.lit (.bool false)], args := [d1, d2] }
  | _ => none }
def KeytreeGapsWrongFalsely : Prop := keytreeGapsRow.holds Try.pinned (OpenSpec.ofChange keytreeGapsWrong)

/-- 'erasurelaw27.KeytreeCount': WHATEVER THE INPUT: true; the input reads as it did. -/
def keytreeCountSpec : ChangeSpec := { name := "keytreeCount", fn := fun _ => fun
  | [d1, d2] => { results := [.lit (.bool true)], args := [d1, d2] }
  | _ => none }
def keytreeCountRow : OpenClaim := { program := "yteakoleceoclkaa", sum := "7d3bb118ebbe22ea020aac68d538a15a97f6fa55e18a3ec8d1af7a35607cc9e6", func := "erasure/erasurelaw27.KeytreeCount", spec := "keytreeCount", unfollowed := true, recurses := true, apart := false }
def KeytreeCountSaid : Prop := keytreeCountRow.holds Try.pinned (OpenSpec.ofChange keytreeCountSpec)

/-- ITS FALSE NEIGHBOUR: 'it returns false'. Refute it at one input. -/
def keytreeCountWrong : ChangeSpec := { name := "keytreeCount", fn := fun _ => fun
  | [d1, d2] => { results := [.lit (.bool false)], args := [d1, d2] }
  | _ => none }
def KeytreeCountWrongFalsely : Prop := keytreeCountRow.holds Try.pinned (OpenSpec.ofChange keytreeCountWrong)

/-- 'erasurelaw27.KeytreeRaw': WHATEVER THE INPUT: true; the input reads as it did. -/
def keytreeRawSpec : ChangeSpec := { name := "keytreeRaw", fn := fun _ => fun
  | [d1, d2] => { results := [.lit (.bool true)], args := [d1, d2] }
  | _ => none }
def keytreeRawRow : OpenClaim := { program := "yteakoleceoclkaa", sum := "7d3bb118ebbe22ea020aac68d538a15a97f6fa55e18a3ec8d1af7a35607cc9e6", func := "erasure/erasurelaw27.KeytreeRaw", spec := "keytreeRaw", unfollowed := true, recurses := true, apart := false }
def KeytreeRawSaid : Prop := keytreeRawRow.holds Try.pinned (OpenSpec.ofChange keytreeRawSpec)

/-- ITS FALSE NEIGHBOUR: 'it returns false'. Refute it at one input. -/
def keytreeRawWrong : ChangeSpec := { name := "keytreeRaw", fn := fun _ => fun
  | [d1, d2] => { results := [.lit (.bool false)], args := [d1, d2] }
  | _ => none }
def KeytreeRawWrongFalsely : Prop := keytreeRawRow.holds Try.pinned (OpenSpec.ofChange keytreeRawWrong)

/-- 'erasurelaw27.KeytreeFull': WHATEVER THE INPUT: true; the input reads as it did. -/
def keytreeFullSpec : ChangeSpec := { name := "keytreeFull", fn := fun _ => fun
  | [d1, d2] => { results := [.lit (.bool true)], args := [d1, d2] }
  | _ => none }
def keytreeFullRow : OpenClaim := { program := "yteakoleceoclkaa", sum := "7d3bb118ebbe22ea020aac68d538a15a97f6fa55e18a3ec8d1af7a35607cc9e6", func := "erasure/erasurelaw27.KeytreeFull", spec := "keytreeFull", inPlace := ["internal/bytealg.Compare", "slices.overlaps[erasure/api.VaultKey]"], unfollowed := true, recurses := true, apart := false }
def KeytreeFullSaid : Prop := keytreeFullRow.holds Try.pinned (OpenSpec.ofChange keytreeFullSpec)

/-- ITS FALSE NEIGHBOUR: 'it returns false'. Refute it at one input. -/
def keytreeFullWrong : ChangeSpec := { name := "keytreeFull", fn := fun _ => fun
  | [d1, d2] => { results := [.lit (.bool false)], args := [d1, d2] }
  | _ => none }
def KeytreeFullWrongFalsely : Prop := keytreeFullRow.holds Try.pinned (OpenSpec.ofChange keytreeFullWrong)

/-- 'erasurelaw27.KeytreeVaultRaw': WHATEVER THE INPUT: true; the input reads as it did. -/
def keytreeVaultRawSpec : ChangeSpec := { name := "keytreeVaultRaw", fn := fun _ => fun
  | [d1, d2, d3] => { results := [.lit (.bool true)], args := [d1, d2, d3] }
  | _ => none }
def keytreeVaultRawRow : OpenClaim := { program := "yteakoleceoclkaa", sum := "7d3bb118ebbe22ea020aac68d538a15a97f6fa55e18a3ec8d1af7a35607cc9e6", func := "erasure/erasurelaw27.KeytreeVaultRaw", spec := "keytreeVaultRaw", inPlace := ["internal/bytealg.Compare", "slices.overlaps[erasure/api.VaultKey]"], unfollowed := true, recurses := true, apart := false }
def KeytreeVaultRawSaid : Prop := keytreeVaultRawRow.holds Try.pinned (OpenSpec.ofChange keytreeVaultRawSpec)

/-- ITS FALSE NEIGHBOUR: 'it returns false'. Refute it at one input. -/
def keytreeVaultRawWrong : ChangeSpec := { name := "keytreeVaultRaw", fn := fun _ => fun
  | [d1, d2, d3] => { results := [.lit (.bool false)], args := [d1, d2, d3] }
  | _ => none }
def KeytreeVaultRawWrongFalsely : Prop := keytreeVaultRawRow.holds Try.pinned (OpenSpec.ofChange keytreeVaultRawWrong)

/-- 'erasurelaw27.KeytreePseudonyms': WHATEVER THE INPUT: true; the input reads as it did. -/
def keytreePseudonymsSpec : ChangeSpec := { name := "keytreePseudonyms", fn := fun _ => fun
  | [d1, d2, d3] => { results := [.lit (.bool true)], args := [d1, d2, d3] }
  | _ => none }
def keytreePseudonymsRow : OpenClaim := { program := "yteakoleceoclkaa", sum := "7d3bb118ebbe22ea020aac68d538a15a97f6fa55e18a3ec8d1af7a35607cc9e6", func := "erasure/erasurelaw27.KeytreePseudonyms", spec := "keytreePseudonyms", inPlace := ["internal/bytealg.Compare", "slices.overlaps[erasure/api.VaultKey]"], unfollowed := true, recurses := true, apart := false }
def KeytreePseudonymsSaid : Prop := keytreePseudonymsRow.holds Try.pinned (OpenSpec.ofChange keytreePseudonymsSpec)

/-- ITS FALSE NEIGHBOUR: 'it returns false'. Refute it at one input. -/
def keytreePseudonymsWrong : ChangeSpec := { name := "keytreePseudonyms", fn := fun _ => fun
  | [d1, d2, d3] => { results := [.lit (.bool false)], args := [d1, d2, d3] }
  | _ => none }
def KeytreePseudonymsWrongFalsely : Prop := keytreePseudonymsRow.holds Try.pinned (OpenSpec.ofChange keytreePseudonymsWrong)

/-- 'erasurelaw27.KeytreeVaults': WHATEVER THE INPUT: true; the input reads as it did. -/
def keytreeVaultsSpec : ChangeSpec := { name := "keytreeVaults", fn := fun _ => fun
  | [d1, d2] => { results := [.lit (.bool true)], args := [d1, d2] }
  | _ => none }
def keytreeVaultsRow : OpenClaim := { program := "yteakoleceoclkaa", sum := "7d3bb118ebbe22ea020aac68d538a15a97f6fa55e18a3ec8d1af7a35607cc9e6", func := "erasure/erasurelaw27.KeytreeVaults", spec := "keytreeVaults", inPlace := ["internal/bytealg.Compare", "slices.overlaps[erasure/api.VaultKey]"], unfollowed := true, recurses := true, apart := false }
def KeytreeVaultsSaid : Prop := keytreeVaultsRow.holds Try.pinned (OpenSpec.ofChange keytreeVaultsSpec)

/-- ITS FALSE NEIGHBOUR: 'it returns false'. Refute it at one input. -/
def keytreeVaultsWrong : ChangeSpec := { name := "keytreeVaults", fn := fun _ => fun
  | [d1, d2] => { results := [.lit (.bool false)], args := [d1, d2] }
  | _ => none }
def KeytreeVaultsWrongFalsely : Prop := keytreeVaultsRow.holds Try.pinned (OpenSpec.ofChange keytreeVaultsWrong)

/-- 'erasurelaw27.KeytreeOwners': WHATEVER THE INPUT: true; the input reads as it did. -/
def keytreeOwnersSpec : ChangeSpec := { name := "keytreeOwners", fn := fun _ => fun
  | [d1, d2, d3] => { results := [.lit (.bool true)], args := [d1, d2, d3] }
  | _ => none }
def keytreeOwnersRow : OpenClaim := { program := "yteakoleceoclkaa", sum := "7d3bb118ebbe22ea020aac68d538a15a97f6fa55e18a3ec8d1af7a35607cc9e6", func := "erasure/erasurelaw27.KeytreeOwners", spec := "keytreeOwners", inPlace := ["internal/bytealg.Compare", "slices.overlaps[erasure/api.VaultKey]"], unfollowed := true, recurses := true, apart := false }
def KeytreeOwnersSaid : Prop := keytreeOwnersRow.holds Try.pinned (OpenSpec.ofChange keytreeOwnersSpec)

/-- ITS FALSE NEIGHBOUR: 'it returns false'. Refute it at one input. -/
def keytreeOwnersWrong : ChangeSpec := { name := "keytreeOwners", fn := fun _ => fun
  | [d1, d2, d3] => { results := [.lit (.bool false)], args := [d1, d2, d3] }
  | _ => none }
def KeytreeOwnersWrongFalsely : Prop := keytreeOwnersRow.holds Try.pinned (OpenSpec.ofChange keytreeOwnersWrong)

/- THE SECOND FORM. 'bulk': how many values and letters a reading holds, each counted each time it is reached (what is shared counts as often as it is met; a slice's spare places count too). A statement '..UptoSaid' is the law's where the arguments, and the package variables that the reading takes, are together of bulk at most 1048576: NARROWER than '..Said'. Prove '..Said' where nothing that the law and all that it calls make is longer than what came in: it says more and counts as full. Else prove '..UptoSaid'. A law counts once. -/
mutual
def uptoBulk {H : Type} : DataW H → Nat
  | .lit (.string bytes) => bytes.length + 1
  | .lit _ => 1
  | .nil => 1
  | .ptr d => uptoBulk d + 1
  | .slice elems spare => uptoBulkAll elems + uptoBulkAll spare + 1
  | .agg parts => uptoBulkAll parts + 1
  | .iface _ d => uptoBulk d + 1
  | .map entries => uptoBulkEntries entries + 1
  | .held _ => 1
def uptoBulkAll {H : Type} : List (DataW H) → Nat
  | [] => 0
  | d :: r => uptoBulk d + uptoBulkAll r
def uptoBulkEntries {H : Type} : List (Lit × DataW H) → Nat
  | [] => 0
  | x :: r => uptoBulkEntry x + uptoBulkEntries r
def uptoBulkEntry {H : Type} : Lit × DataW H → Nat
  | (.string bytes, d) => bytes.length + uptoBulk d + 1
  | (_, d) => uptoBulk d + 1
 end
def uptoSmall : (H : Type) → List (DataW H) → Bool := fun _ ds => decide (uptoBulkAll ds ≤ 1048576)
def OpenSpec.upto (s : _root_.Go.ChangeSpec) : _root_.Go.OpenSpec := { _root_.Go.OpenSpec.ofChange s with cond := some uptoSmall }

/-- 'erasurelaw27.KeytreeAddresses', WHERE WHAT IT READS IS OF BULK AT MOST 1048576: true; the input reads as it did. -/
def keytreeAddressesUptoRow : OpenClaim := { program := "yteakoleceoclkaa", sum := "7d3bb118ebbe22ea020aac68d538a15a97f6fa55e18a3ec8d1af7a35607cc9e6", func := "erasure/erasurelaw27.KeytreeAddresses", spec := "keytreeAddresses", unfollowed := true, recurses := true, apart := false, narrowed := true }
def KeytreeAddressesUptoSaid : Prop := keytreeAddressesUptoRow.holds Try.pinned (OpenSpec.upto keytreeAddressesSpec)

/-- 'erasurelaw27.KeytreeLeaves', WHERE WHAT IT READS IS OF BULK AT MOST 1048576: true; the input reads as it did. -/
def keytreeLeavesUptoRow : OpenClaim := { program := "yteakoleceoclkaa", sum := "7d3bb118ebbe22ea020aac68d538a15a97f6fa55e18a3ec8d1af7a35607cc9e6", func := "erasure/erasurelaw27.KeytreeLeaves", spec := "keytreeLeaves", unfollowed := true, recurses := true, apart := false, narrowed := true }
def KeytreeLeavesUptoSaid : Prop := keytreeLeavesUptoRow.holds Try.pinned (OpenSpec.upto keytreeLeavesSpec)

/-- 'erasurelaw27.KeytreePunctures', WHERE WHAT IT READS IS OF BULK AT MOST 1048576: true; the input reads as it did. -/
def keytreePuncturesUptoRow : OpenClaim := { program := "yteakoleceoclkaa", sum := "7d3bb118ebbe22ea020aac68d538a15a97f6fa55e18a3ec8d1af7a35607cc9e6", func := "erasure/erasurelaw27.KeytreePunctures", spec := "keytreePunctures", unfollowed := true, recurses := true, apart := false, narrowed := true }
def KeytreePuncturesUptoSaid : Prop := keytreePuncturesUptoRow.holds Try.pinned (OpenSpec.upto keytreePuncturesSpec)

/-- 'erasurelaw27.KeytreeOrder', WHERE WHAT IT READS IS OF BULK AT MOST 1048576: true; the input reads as it did. -/
def keytreeOrderUptoRow : OpenClaim := { program := "yteakoleceoclkaa", sum := "7d3bb118ebbe22ea020aac68d538a15a97f6fa55e18a3ec8d1af7a35607cc9e6", func := "erasure/erasurelaw27.KeytreeOrder", spec := "keytreeOrder", unfollowed := true, recurses := true, apart := false, narrowed := true }
def KeytreeOrderUptoSaid : Prop := keytreeOrderUptoRow.holds Try.pinned (OpenSpec.upto keytreeOrderSpec)

/-- 'erasurelaw27.KeytreeAgain', WHERE WHAT IT READS IS OF BULK AT MOST 1048576: true; the input reads as it did. -/
def keytreeAgainUptoRow : OpenClaim := { program := "yteakoleceoclkaa", sum := "7d3bb118ebbe22ea020aac68d538a15a97f6fa55e18a3ec8d1af7a35607cc9e6", func := "erasure/erasurelaw27.KeytreeAgain", spec := "keytreeAgain", unfollowed := true, recurses := true, apart := false, narrowed := true }
def KeytreeAgainUptoSaid : Prop := keytreeAgainUptoRow.holds Try.pinned (OpenSpec.upto keytreeAgainSpec)

/-- 'erasurelaw27.KeytreeKeeps', WHERE WHAT IT READS IS OF BULK AT MOST 1048576: true; the input reads as it did. -/
def keytreeKeepsUptoRow : OpenClaim := { program := "yteakoleceoclkaa", sum := "7d3bb118ebbe22ea020aac68d538a15a97f6fa55e18a3ec8d1af7a35607cc9e6", func := "erasure/erasurelaw27.KeytreeKeeps", spec := "keytreeKeeps", unfollowed := true, recurses := true, apart := false, narrowed := true }
def KeytreeKeepsUptoSaid : Prop := keytreeKeepsUptoRow.holds Try.pinned (OpenSpec.upto keytreeKeepsSpec)

/-- 'erasurelaw27.KeytreeGaps', WHERE WHAT IT READS IS OF BULK AT MOST 1048576: true; the input reads as it did. -/
def keytreeGapsUptoRow : OpenClaim := { program := "yteakoleceoclkaa", sum := "7d3bb118ebbe22ea020aac68d538a15a97f6fa55e18a3ec8d1af7a35607cc9e6", func := "erasure/erasurelaw27.KeytreeGaps", spec := "keytreeGaps", unfollowed := true, recurses := true, apart := false, narrowed := true }
def KeytreeGapsUptoSaid : Prop := keytreeGapsUptoRow.holds Try.pinned (OpenSpec.upto keytreeGapsSpec)

/-- 'erasurelaw27.KeytreeCount', WHERE WHAT IT READS IS OF BULK AT MOST 1048576: true; the input reads as it did. -/
def keytreeCountUptoRow : OpenClaim := { program := "yteakoleceoclkaa", sum := "7d3bb118ebbe22ea020aac68d538a15a97f6fa55e18a3ec8d1af7a35607cc9e6", func := "erasure/erasurelaw27.KeytreeCount", spec := "keytreeCount", unfollowed := true, recurses := true, apart := false, narrowed := true }
def KeytreeCountUptoSaid : Prop := keytreeCountUptoRow.holds Try.pinned (OpenSpec.upto keytreeCountSpec)

/-- 'erasurelaw27.KeytreeRaw', WHERE WHAT IT READS IS OF BULK AT MOST 1048576: true; the input reads as it did. -/
def keytreeRawUptoRow : OpenClaim := { program := "yteakoleceoclkaa", sum := "7d3bb118ebbe22ea020aac68d538a15a97f6fa55e18a3ec8d1af7a35607cc9e6", func := "erasure/erasurelaw27.KeytreeRaw", spec := "keytreeRaw", unfollowed := true, recurses := true, apart := false, narrowed := true }
def KeytreeRawUptoSaid : Prop := keytreeRawUptoRow.holds Try.pinned (OpenSpec.upto keytreeRawSpec)

/-- 'erasurelaw27.KeytreeFull', WHERE WHAT IT READS IS OF BULK AT MOST 1048576: true; the input reads as it did. -/
def keytreeFullUptoRow : OpenClaim := { program := "yteakoleceoclkaa", sum := "7d3bb118ebbe22ea020aac68d538a15a97f6fa55e18a3ec8d1af7a35607cc9e6", func := "erasure/erasurelaw27.KeytreeFull", spec := "keytreeFull", inPlace := ["internal/bytealg.Compare", "slices.overlaps[erasure/api.VaultKey]"], unfollowed := true, recurses := true, apart := false, narrowed := true }
def KeytreeFullUptoSaid : Prop := keytreeFullUptoRow.holds Try.pinned (OpenSpec.upto keytreeFullSpec)

/-- 'erasurelaw27.KeytreeVaultRaw', WHERE WHAT IT READS IS OF BULK AT MOST 1048576: true; the input reads as it did. -/
def keytreeVaultRawUptoRow : OpenClaim := { program := "yteakoleceoclkaa", sum := "7d3bb118ebbe22ea020aac68d538a15a97f6fa55e18a3ec8d1af7a35607cc9e6", func := "erasure/erasurelaw27.KeytreeVaultRaw", spec := "keytreeVaultRaw", inPlace := ["internal/bytealg.Compare", "slices.overlaps[erasure/api.VaultKey]"], unfollowed := true, recurses := true, apart := false, narrowed := true }
def KeytreeVaultRawUptoSaid : Prop := keytreeVaultRawUptoRow.holds Try.pinned (OpenSpec.upto keytreeVaultRawSpec)

/-- 'erasurelaw27.KeytreePseudonyms', WHERE WHAT IT READS IS OF BULK AT MOST 1048576: true; the input reads as it did. -/
def keytreePseudonymsUptoRow : OpenClaim := { program := "yteakoleceoclkaa", sum := "7d3bb118ebbe22ea020aac68d538a15a97f6fa55e18a3ec8d1af7a35607cc9e6", func := "erasure/erasurelaw27.KeytreePseudonyms", spec := "keytreePseudonyms", inPlace := ["internal/bytealg.Compare", "slices.overlaps[erasure/api.VaultKey]"], unfollowed := true, recurses := true, apart := false, narrowed := true }
def KeytreePseudonymsUptoSaid : Prop := keytreePseudonymsUptoRow.holds Try.pinned (OpenSpec.upto keytreePseudonymsSpec)

/-- 'erasurelaw27.KeytreeVaults', WHERE WHAT IT READS IS OF BULK AT MOST 1048576: true; the input reads as it did. -/
def keytreeVaultsUptoRow : OpenClaim := { program := "yteakoleceoclkaa", sum := "7d3bb118ebbe22ea020aac68d538a15a97f6fa55e18a3ec8d1af7a35607cc9e6", func := "erasure/erasurelaw27.KeytreeVaults", spec := "keytreeVaults", inPlace := ["internal/bytealg.Compare", "slices.overlaps[erasure/api.VaultKey]"], unfollowed := true, recurses := true, apart := false, narrowed := true }
def KeytreeVaultsUptoSaid : Prop := keytreeVaultsUptoRow.holds Try.pinned (OpenSpec.upto keytreeVaultsSpec)

/-- 'erasurelaw27.KeytreeOwners', WHERE WHAT IT READS IS OF BULK AT MOST 1048576: true; the input reads as it did. -/
def keytreeOwnersUptoRow : OpenClaim := { program := "yteakoleceoclkaa", sum := "7d3bb118ebbe22ea020aac68d538a15a97f6fa55e18a3ec8d1af7a35607cc9e6", func := "erasure/erasurelaw27.KeytreeOwners", spec := "keytreeOwners", inPlace := ["internal/bytealg.Compare", "slices.overlaps[erasure/api.VaultKey]"], unfollowed := true, recurses := true, apart := false, narrowed := true }
def KeytreeOwnersUptoSaid : Prop := keytreeOwnersUptoRow.holds Try.pinned (OpenSpec.upto keytreeOwnersSpec)

end Rows
end Go.Proofs.Yteakoleceoclkaa
