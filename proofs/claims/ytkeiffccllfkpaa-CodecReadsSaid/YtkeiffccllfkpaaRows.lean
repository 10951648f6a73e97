/-
  No cell of these rows narrows 'for every input' (looked for: loops, veiled, ifaces, maps, wideKeys, modest, calm, conditions, laid).
  DERIVED. THE GIVEN ROWS OF THIS SEAT. 15 by the template 'for every input the law returns true; each argument reads behind the call as it read before'; 0 by the template 'total and deterministic' (their statements: YtkeiffccllfkpaaTotals.lean).
  GIVEN WITH THE SEED: the statements are not yours to turn. If you find one false, say at which input.
  Laid BY PROGRAM, IN A SANDBOX (cutbox-rows.mjs): the forced cells as the released guide's own fill.sh prints them over the translation 45d895cfe5ff8237… (all of the seat's roots in one cut). By AI agents, Wed Nov 11 2026. No macro, syntax, notation, axiom, sorry.
-/
import Derived.Test.YtkeiffccllfkpaaChecked
import GoSem.Claim
import GoSem.ClaimJoined
import GoSem.ClaimMapViews
import Derived.JoinedTies
import Derived.KernelRfl
namespace Go.Proofs.Ytkeiffccllfkpaa
/- THE CELL 'sum', in the pinned program and in every row, IS THE sha256 OF THE DUMP (.gsa) THAT YtkeiffccllfkpaaProg.lean LOADS. Nothing in Lean hashes anything: it is a label: what it is worth is what the hold of that sum in a sandbox is worth. -/
noncomputable def Try.pinned : Pinned := { name := "ytkeiffccllfkpaa", sum := "45d895cfe5ff8237665e14ff29558d30a58eb228bd74a849a9787a52d67b94c2", checked := Try.checked }
namespace Rows
def none {H : Type} : Left H := { results := [], args := [] }

/-- 'erasurelaw26.CodecInts': WHATEVER THE INPUT: true; the input reads as it did. -/
def codecIntsSpec : ChangeSpec := { name := "codecInts", fn := fun _ => fun
  | [d1, d2, d3] => { results := [.lit (.bool true)], args := [d1, d2, d3] }
  | _ => none }
def codecIntsRow : OpenClaim := { program := "ytkeiffccllfkpaa", sum := "45d895cfe5ff8237665e14ff29558d30a58eb228bd74a849a9787a52d67b94c2", func := "erasure/erasurelaw26.CodecInts", spec := "codecInts", unfollowed := true, recurses := true, apart := false }
def CodecIntsSaid : Prop := codecIntsRow.holds Try.pinned (OpenSpec.ofChange codecIntsSpec)

/-- ITS FALSE NEIGHBOUR: 'it returns false'. Refute it at one input. -/
def codecIntsWrong : ChangeSpec := { name := "codecInts", fn := fun _ => fun
  | [d1, d2, d3] => { results := [.lit (.bool false)], args := [d1, d2, d3] }
  | _ => none }
def CodecIntsWrongFalsely : Prop := codecIntsRow.holds Try.pinned (OpenSpec.ofChange codecIntsWrong)

/-- 'erasurelaw26.CodecIntReads': WHATEVER THE INPUT: true; the input reads as it did. -/
def codecIntReadsSpec : ChangeSpec := { name := "codecIntReads", fn := fun _ => fun
  | [d] => { results := [.lit (.bool true)], args := [d] }
  | _ => none }
def codecIntReadsRow : OpenClaim := { program := "ytkeiffccllfkpaa", sum := "45d895cfe5ff8237665e14ff29558d30a58eb228bd74a849a9787a52d67b94c2", func := "erasure/erasurelaw26.CodecIntReads", spec := "codecIntReads", unfollowed := true, recurses := true, apart := false }
def CodecIntReadsSaid : Prop := codecIntReadsRow.holds Try.pinned (OpenSpec.ofChange codecIntReadsSpec)

/-- ITS FALSE NEIGHBOUR: 'it returns false'. Refute it at one input. -/
def codecIntReadsWrong : ChangeSpec := { name := "codecIntReads", fn := fun _ => fun
  | [d] => { results := [.lit (.bool false)], args := [d] }
  | _ => none }
def CodecIntReadsWrongFalsely : Prop := codecIntReadsRow.holds Try.pinned (OpenSpec.ofChange codecIntReadsWrong)

/-- 'erasurelaw26.CodecOwn': WHATEVER THE INPUT: true; the input reads as it did. -/
def codecOwnSpec : ChangeSpec := { name := "codecOwn", fn := fun _ => fun
  | [d1, d2, d3] => { results := [.lit (.bool true)], args := [d1, d2, d3] }
  | _ => none }
def codecOwnRow : OpenClaim := { program := "ytkeiffccllfkpaa", sum := "45d895cfe5ff8237665e14ff29558d30a58eb228bd74a849a9787a52d67b94c2", func := "erasure/erasurelaw26.CodecOwn", spec := "codecOwn", unfollowed := true, recurses := true, apart := false }
def CodecOwnSaid : Prop := codecOwnRow.holds Try.pinned (OpenSpec.ofChange codecOwnSpec)

/-- ITS FALSE NEIGHBOUR: 'it returns false'. Refute it at one input. -/
def codecOwnWrong : ChangeSpec := { name := "codecOwn", fn := fun _ => fun
  | [d1, d2, d3] => { results := [.lit (.bool false)], args := [d1, d2, d3] }
  | _ => none }
def CodecOwnWrongFalsely : Prop := codecOwnRow.holds Try.pinned (OpenSpec.ofChange codecOwnWrong)

/-- 'erasurelaw26.CodecTexts': WHATEVER THE INPUT: true; the input reads as it did. -/
def codecTextsSpec : ChangeSpec := { name := "codecTexts", fn := fun _ => fun
  | [d1, d2, d3] => { results := [.lit (.bool true)], args := [d1, d2, d3] }
  | _ => none }
def codecTextsRow : OpenClaim := { program := "ytkeiffccllfkpaa", sum := "45d895cfe5ff8237665e14ff29558d30a58eb228bd74a849a9787a52d67b94c2", func := "erasure/erasurelaw26.CodecTexts", spec := "codecTexts", unfollowed := true, recurses := true, apart := false }
def CodecTextsSaid : Prop := codecTextsRow.holds Try.pinned (OpenSpec.ofChange codecTextsSpec)

/-- ITS FALSE NEIGHBOUR: 'it returns false'. Refute it at one input. -/
def codecTextsWrong : ChangeSpec := { name := "codecTexts", fn := fun _ => fun
  | [d1, d2, d3] => { results := [.lit (.bool false)], args := [d1, d2, d3] }
  | _ => none }
def CodecTextsWrongFalsely : Prop := codecTextsRow.holds Try.pinned (OpenSpec.ofChange codecTextsWrong)

/-- 'erasurelaw26.CodecVersions': WHATEVER THE INPUT: true; the input reads as it did. -/
def codecVersionsSpec : ChangeSpec := { name := "codecVersions", fn := fun _ => fun
  | [d1, d2, d3] => { results := [.lit (.bool true)], args := [d1, d2, d3] }
  | _ => none }
def codecVersionsRow : OpenClaim := { program := "ytkeiffccllfkpaa", sum := "45d895cfe5ff8237665e14ff29558d30a58eb228bd74a849a9787a52d67b94c2", func := "erasure/erasurelaw26.CodecVersions", spec := "codecVersions", unfollowed := true, recurses := true, apart := false }
def CodecVersionsSaid : Prop := codecVersionsRow.holds Try.pinned (OpenSpec.ofChange codecVersionsSpec)

/-- ITS FALSE NEIGHBOUR: 'it returns false'. Refute it at one input. -/
def codecVersionsWrong : ChangeSpec := { name := "codecVersions", fn := fun _ => fun
  | [d1, d2, d3] => { results := [.lit (.bool false)], args := [d1, d2, d3] }
  | _ => none }
def CodecVersionsWrongFalsely : Prop := codecVersionsRow.holds Try.pinned (OpenSpec.ofChange codecVersionsWrong)

/-- 'erasurelaw26.CodecRows': WHATEVER THE INPUT: true; the input reads as it did. -/
def codecRowsSpec : ChangeSpec := { name := "codecRows", fn := fun _ => fun
  | [d1, d2] => { results := [.lit (.bool true)], args := [d1, d2] }
  | _ => none }
def codecRowsRow : OpenClaim := { program := "ytkeiffccllfkpaa", sum := "45d895cfe5ff8237665e14ff29558d30a58eb228bd74a849a9787a52d67b94c2", func := "erasure/erasurelaw26.CodecRows", spec := "codecRows", unfollowed := true, recurses := true, apart := false }
def CodecRowsSaid : Prop := codecRowsRow.holds Try.pinned (OpenSpec.ofChange codecRowsSpec)

/-- ITS FALSE NEIGHBOUR: 'it returns false'. Refute it at one input. -/
def codecRowsWrong : ChangeSpec := { name := "codecRows", fn := fun _ => fun
  | [d1, d2] => { results := [.lit (.bool false)], args := [d1, d2] }
  | _ => none }
def CodecRowsWrongFalsely : Prop := codecRowsRow.holds Try.pinned (OpenSpec.ofChange codecRowsWrong)

/-- 'erasurelaw26.CodecBags': WHATEVER THE INPUT: true; the input reads as it did. -/
def codecBagsSpec : ChangeSpec := { name := "codecBags", fn := fun _ => fun
  | [d1, d2] => { results := [.lit (.bool true)], args := [d1, d2] }
  | _ => none }
def codecBagsRow : OpenClaim := { program := "ytkeiffccllfkpaa", sum := "45d895cfe5ff8237665e14ff29558d30a58eb228bd74a849a9787a52d67b94c2", func := "erasure/erasurelaw26.CodecBags", spec := "codecBags", unfollowed := true, recurses := true, apart := false }
def CodecBagsSaid : Prop := codecBagsRow.holds Try.pinned (OpenSpec.ofChange codecBagsSpec)

/-- ITS FALSE NEIGHBOUR: 'it returns false'. Refute it at one input. -/
def codecBagsWrong : ChangeSpec := { name := "codecBags", fn := fun _ => fun
  | [d1, d2] => { results := [.lit (.bool false)], args := [d1, d2] }
  | _ => none }
def CodecBagsWrongFalsely : Prop := codecBagsRow.holds Try.pinned (OpenSpec.ofChange codecBagsWrong)

/-- 'erasurelaw26.CodecChanges': WHATEVER THE INPUT: true; the input reads as it did. -/
def codecChangesSpec : ChangeSpec := { name := "codecChanges", fn := fun _ => fun
  | [d1, d2] => { results := [.lit (.bool true)], args := [d1, d2] }
  | _ => none }
def codecChangesRow : OpenClaim := { program := "ytkeiffccllfkpaa", sum := "45d895cfe5ff8237665e14ff29558d30a58eb228bd74a849a9787a52d67b94c2", func := "erasure/erasurelaw26.CodecChanges", spec := "codecChanges", unfollowed := true, recurses := true, apart := false }
def CodecChangesSaid : Prop := codecChangesRow.holds Try.pinned (OpenSpec.ofChange codecChangesSpec)

/-- ITS FALSE NEIGHBOUR: 'it returns false'. Refute it at one input. -/
def codecChangesWrong : ChangeSpec := { name := "codecChanges", fn := fun _ => fun
  | [d1, d2] => { results := [.lit (.bool false)], args := [d1, d2] }
  | _ => none }
def CodecChangesWrongFalsely : Prop := codecChangesRow.holds Try.pinned (OpenSpec.ofChange codecChangesWrong)

/-- 'erasurelaw26.CodecApart': WHATEVER THE INPUT: true; the input reads as it did. -/
def codecApartSpec : ChangeSpec := { name := "codecApart", fn := fun _ => fun
  | [d1, d2] => { results := [.lit (.bool true)], args := [d1, d2] }
  | _ => none }
def codecApartRow : OpenClaim := { program := "ytkeiffccllfkpaa", sum := "45d895cfe5ff8237665e14ff29558d30a58eb228bd74a849a9787a52d67b94c2", func := "erasure/erasurelaw26.CodecApart", spec := "codecApart", unfollowed := true, recurses := true, apart := false }
def CodecApartSaid : Prop := codecApartRow.holds Try.pinned (OpenSpec.ofChange codecApartSpec)

/-- ITS FALSE NEIGHBOUR: 'it returns false'. Refute it at one input. -/
def codecApartWrong : ChangeSpec := { name := "codecApart", fn := fun _ => fun
  | [d1, d2] => { results := [.lit (.bool false)], args := [d1, d2] }
  | _ => none }
def CodecApartWrongFalsely : Prop := codecApartRow.holds Try.pinned (OpenSpec.ofChange codecApartWrong)

/-- 'erasurelaw26.CodecRecords': WHATEVER THE INPUT: true; the input reads as it did. -/
def codecRecordsSpec : ChangeSpec := { name := "codecRecords", fn := fun _ => fun
  | [d1, d2] => { results := [.lit (.bool true)], args := [d1, d2] }
  | _ => none }
def codecRecordsRow : OpenClaim := { program := "ytkeiffccllfkpaa", sum := "45d895cfe5ff8237665e14ff29558d30a58eb228bd74a849a9787a52d67b94c2", func := "erasure/erasurelaw26.CodecRecords", spec := "codecRecords", unfollowed := true, recurses := true, apart := false }
def CodecRecordsSaid : Prop := codecRecordsRow.holds Try.pinned (OpenSpec.ofChange codecRecordsSpec)

/-- ITS FALSE NEIGHBOUR: 'it returns false'. Refute it at one input. -/
def codecRecordsWrong : ChangeSpec := { name := "codecRecords", fn := fun _ => fun
  | [d1, d2] => { results := [.lit (.bool false)], args := [d1, d2] }
  | _ => none }
def CodecRecordsWrongFalsely : Prop := codecRecordsRow.holds Try.pinned (OpenSpec.ofChange codecRecordsWrong)

/-- 'erasurelaw26.CodecCuts': WHATEVER THE INPUT: true; the input reads as it did. -/
def codecCutsSpec : ChangeSpec := { name := "codecCuts", fn := fun _ => fun
  | [d1, d2] => { results := [.lit (.bool true)], args := [d1, d2] }
  | _ => none }
def codecCutsRow : OpenClaim := { program := "ytkeiffccllfkpaa", sum := "45d895cfe5ff8237665e14ff29558d30a58eb228bd74a849a9787a52d67b94c2", func := "erasure/erasurelaw26.CodecCuts", spec := "codecCuts", unfollowed := true, recurses := true, apart := false }
def CodecCutsSaid : Prop := codecCutsRow.holds Try.pinned (OpenSpec.ofChange codecCutsSpec)

/-- ITS FALSE NEIGHBOUR: 'it returns false'. Refute it at one input. -/
def codecCutsWrong : ChangeSpec := { name := "codecCuts", fn := fun _ => fun
  | [d1, d2] => { results := [.lit (.bool false)], args := [d1, d2] }
  | _ => none }
def CodecCutsWrongFalsely : Prop := codecCutsRow.holds Try.pinned (OpenSpec.ofChange codecCutsWrong)

/-- 'erasurelaw26.CodecRequests': WHATEVER THE INPUT: true; the input reads as it did. -/
def codecRequestsSpec : ChangeSpec := { name := "codecRequests", fn := fun _ => fun
  | [d1, d2, d3] => { results := [.lit (.bool true)], args := [d1, d2, d3] }
  | _ => none }
def codecRequestsRow : OpenClaim := { program := "ytkeiffccllfkpaa", sum := "45d895cfe5ff8237665e14ff29558d30a58eb228bd74a849a9787a52d67b94c2", func := "erasure/erasurelaw26.CodecRequests", spec := "codecRequests", unfollowed := true, recurses := true, apart := false }
def CodecRequestsSaid : Prop := codecRequestsRow.holds Try.pinned (OpenSpec.ofChange codecRequestsSpec)

/-- ITS FALSE NEIGHBOUR: 'it returns false'. Refute it at one input. -/
def codecRequestsWrong : ChangeSpec := { name := "codecRequests", fn := fun _ => fun
  | [d1, d2, d3] => { results := [.lit (.bool false)], args := [d1, d2, d3] }
  | _ => none }
def CodecRequestsWrongFalsely : Prop := codecRequestsRow.holds Try.pinned (OpenSpec.ofChange codecRequestsWrong)

/-- 'erasurelaw26.CodecReads': WHATEVER THE INPUT: true; the input reads as it did. -/
def codecReadsSpec : ChangeSpec := { name := "codecReads", fn := fun _ => fun
  | [d1, d2] => { results := [.lit (.bool true)], args := [d1, d2] }
  | _ => none }
def codecReadsRow : OpenClaim := { program := "ytkeiffccllfkpaa", sum := "45d895cfe5ff8237665e14ff29558d30a58eb228bd74a849a9787a52d67b94c2", func := "erasure/erasurelaw26.CodecReads", spec := "codecReads", unfollowed := true, recurses := true, apart := false }
def CodecReadsSaid : Prop := codecReadsRow.holds Try.pinned (OpenSpec.ofChange codecReadsSpec)

/-- ITS FALSE NEIGHBOUR: 'it returns false'. Refute it at one input. -/
def codecReadsWrong : ChangeSpec := { name := "codecReads", fn := fun _ => fun
  | [d1, d2] => { results := [.lit (.bool false)], args := [d1, d2] }
  | _ => none }
def CodecReadsWrongFalsely : Prop := codecReadsRow.holds Try.pinned (OpenSpec.ofChange codecReadsWrong)

/-- 'erasurelaw26.CodecEntries': WHATEVER THE INPUT: true; the input reads as it did. -/
def codecEntriesSpec : ChangeSpec := { name := "codecEntries", fn := fun _ => fun
  | [d1, d2] => { results := [.lit (.bool true)], args := [d1, d2] }
  | _ => none }
def codecEntriesRow : OpenClaim := { program := "ytkeiffccllfkpaa", sum := "45d895cfe5ff8237665e14ff29558d30a58eb228bd74a849a9787a52d67b94c2", func := "erasure/erasurelaw26.CodecEntries", spec := "codecEntries", unfollowed := true, recurses := true, apart := false }
def CodecEntriesSaid : Prop := codecEntriesRow.holds Try.pinned (OpenSpec.ofChange codecEntriesSpec)

/-- ITS FALSE NEIGHBOUR: 'it returns false'. Refute it at one input. -/
def codecEntriesWrong : ChangeSpec := { name := "codecEntries", fn := fun _ => fun
  | [d1, d2] => { results := [.lit (.bool false)], args := [d1, d2] }
  | _ => none }
def CodecEntriesWrongFalsely : Prop := codecEntriesRow.holds Try.pinned (OpenSpec.ofChange codecEntriesWrong)

/-- 'erasurelaw26.CodecOnly': WHATEVER THE INPUT: true; the input reads as it did. -/
def codecOnlySpec : ChangeSpec := { name := "codecOnly", fn := fun _ => fun
  | [d1, d2, d3] => { results := [.lit (.bool true)], args := [d1, d2, d3] }
  | _ => none }
def codecOnlyRow : OpenClaim := { program := "ytkeiffccllfkpaa", sum := "45d895cfe5ff8237665e14ff29558d30a58eb228bd74a849a9787a52d67b94c2", func := "erasure/erasurelaw26.CodecOnly", spec := "codecOnly", unfollowed := true, recurses := true, apart := false }
def CodecOnlySaid : Prop := codecOnlyRow.holds Try.pinned (OpenSpec.ofChange codecOnlySpec)

/-- ITS FALSE NEIGHBOUR: 'it returns false'. Refute it at one input. -/
def codecOnlyWrong : ChangeSpec := { name := "codecOnly", fn := fun _ => fun
  | [d1, d2, d3] => { results := [.lit (.bool false)], args := [d1, d2, d3] }
  | _ => none }
def CodecOnlyWrongFalsely : Prop := codecOnlyRow.holds Try.pinned (OpenSpec.ofChange codecOnlyWrong)

/- THE SECOND FORM. 'bulk': how many values and letters a reading holds, each counted each time it is reached (what is shared counts as often as it is met; a slice's spare places count too). A statement '..UptoSaid' is the law's where the arguments, and the package variables that the reading takes, are together of bulk at most 1048576: NARROWER than '..Said'. Prove '..Said' where nothing that the law and all that it calls make is longer than what came in: it says more and counts as full. Else prove '..UptoSaid'. A law counts once. -/
mutual
def uptoBulk {H : Type} : DataW H → Nat
  | .lit (.string bytes) => bytes.length + 1
  | .lit _ => 1
  | .nil => 1
  | .ptr d => uptoBulk d + 1
  | .slice elems spare => uptoBulkAll elems + uptoBulkAll spare + 1
  | .agg parts => uptoBulkAll parts + 1
  | .iface _ d => uptoBulk d + 1
  | .map entries => uptoBulkEntries entries + 1
  | .held _ => 1
def uptoBulkAll {H : Type} : List (DataW H) → Nat
  | [] => 0
  | d :: r => uptoBulk d + uptoBulkAll r
def uptoBulkEntries {H : Type} : List (Lit × DataW H) → Nat
  | [] => 0
  | x :: r => uptoBulkEntry x + uptoBulkEntries r
def uptoBulkEntry {H : Type} : Lit × DataW H → Nat
  | (.string bytes, d) => bytes.length + uptoBulk d + 1
  | (_, d) => uptoBulk d + 1
 end
def uptoSmall : (H : Type) → List (DataW H) → Bool := fun _ ds => decide (uptoBulkAll ds ≤ 1048576)
def OpenSpec.upto (s : _root_.Go.ChangeSpec) : _root_.Go.OpenSpec := { _root_.Go.OpenSpec.ofChange s with cond := some uptoSmall }

/-- 'erasurelaw26.CodecInts', WHERE WHAT IT READS IS OF BULK AT MOST 1048576: true; the input reads as it did. -/
def codecIntsUptoRow : OpenClaim := { program := "ytkeiffccllfkpaa", sum := "45d895cfe5ff8237665e14ff29558d30a58eb228bd74a849a9787a52d67b94c2", func := "erasure/erasurelaw26.CodecInts", spec := "codecInts", unfollowed := true, recurses := true, apart := false, narrowed := true }
def CodecIntsUptoSaid : Prop := codecIntsUptoRow.holds Try.pinned (OpenSpec.upto codecIntsSpec)

/-- 'erasurelaw26.CodecIntReads', WHERE WHAT IT READS IS OF BULK AT MOST 1048576: true; the input reads as it did. -/
def codecIntReadsUptoRow : OpenClaim := { program := "ytkeiffccllfkpaa", sum := "45d895cfe5ff8237665e14ff29558d30a58eb228bd74a849a9787a52d67b94c2", func := "erasure/erasurelaw26.CodecIntReads", spec := "codecIntReads", unfollowed := true, recurses := true, apart := false, narrowed := true }
def CodecIntReadsUptoSaid : Prop := codecIntReadsUptoRow.holds Try.pinned (OpenSpec.upto codecIntReadsSpec)

/-- 'erasurelaw26.CodecOwn', WHERE WHAT IT READS IS OF BULK AT MOST 1048576: true; the input reads as it did. -/
def codecOwnUptoRow : OpenClaim := { program := "ytkeiffccllfkpaa", sum := "45d895cfe5ff8237665e14ff29558d30a58eb228bd74a849a9787a52d67b94c2", func := "erasure/erasurelaw26.CodecOwn", spec := "codecOwn", unfollowed := true, recurses := true, apart := false, narrowed := true }
def CodecOwnUptoSaid : Prop := codecOwnUptoRow.holds Try.pinned (OpenSpec.upto codecOwnSpec)

/-- 'erasurelaw26.CodecTexts', WHERE WHAT IT READS IS OF BULK AT MOST 1048576: true; the input reads as it did. -/
def codecTextsUptoRow : OpenClaim := { program := "ytkeiffccllfkpaa", sum := "45d895cfe5ff8237665e14ff29558d30a58eb228bd74a849a9787a52d67b94c2", func := "erasure/erasurelaw26.CodecTexts", spec := "codecTexts", unfollowed := true, recurses := true, apart := false, narrowed := true }
def CodecTextsUptoSaid : Prop := codecTextsUptoRow.holds Try.pinned (OpenSpec.upto codecTextsSpec)

/-- 'erasurelaw26.CodecVersions', WHERE WHAT IT READS IS OF BULK AT MOST 1048576: true; the input reads as it did. -/
def codecVersionsUptoRow : OpenClaim := { program := "ytkeiffccllfkpaa", sum := "45d895cfe5ff8237665e14ff29558d30a58eb228bd74a849a9787a52d67b94c2", func := "erasure/erasurelaw26.CodecVersions", spec := "codecVersions", unfollowed := true, recurses := true, apart := false, narrowed := true }
def CodecVersionsUptoSaid : Prop := codecVersionsUptoRow.holds Try.pinned (OpenSpec.upto codecVersionsSpec)

/-- 'erasurelaw26.CodecRows', WHERE WHAT IT READS IS OF BULK AT MOST 1048576: true; the input reads as it did. -/
def codecRowsUptoRow : OpenClaim := { program := "ytkeiffccllfkpaa", sum := "45d895cfe5ff8237665e14ff29558d30a58eb228bd74a849a9787a52d67b94c2", func := "erasure/erasurelaw26.CodecRows", spec := "codecRows", unfollowed := true, recurses := true, apart := false, narrowed := true }
def CodecRowsUptoSaid : Prop := codecRowsUptoRow.holds Try.pinned (OpenSpec.upto codecRowsSpec)

/-- 'erasurelaw26.CodecBags', WHERE WHAT IT READS IS OF BULK AT MOST 1048576: true; the input reads as it did. -/
def codecBagsUptoRow : OpenClaim := { program := "ytkeiffccllfkpaa", sum := "45d895cfe5ff8237665e14ff29558d30a58eb228bd74a849a9787a52d67b94c2", func := "erasure/erasurelaw26.CodecBags", spec := "codecBags", unfollowed := true, recurses := true, apart := false, narrowed := true }
def CodecBagsUptoSaid : Prop := codecBagsUptoRow.holds Try.pinned (OpenSpec.upto codecBagsSpec)

/-- 'erasurelaw26.CodecChanges', WHERE WHAT IT READS IS OF BULK AT MOST 1048576: true; the input reads as it did. -/
def codecChangesUptoRow : OpenClaim := { program := "ytkeiffccllfkpaa", sum := "45d895cfe5ff8237665e14ff29558d30a58eb228bd74a849a9787a52d67b94c2", func := "erasure/erasurelaw26.CodecChanges", spec := "codecChanges", unfollowed := true, recurses := true, apart := false, narrowed := true }
def CodecChangesUptoSaid : Prop := codecChangesUptoRow.holds Try.pinned (OpenSpec.upto codecChangesSpec)

/-- 'erasurelaw26.CodecApart', WHERE WHAT IT READS IS OF BULK AT MOST 1048576: true; the input reads as it did. -/
def codecApartUptoRow : OpenClaim := { program := "ytkeiffccllfkpaa", sum := "45d895cfe5ff8237665e14ff29558d30a58eb228bd74a849a9787a52d67b94c2", func := "erasure/erasurelaw26.CodecApart", spec := "codecApart", unfollowed := true, recurses := true, apart := false, narrowed := true }
def CodecApartUptoSaid : Prop := codecApartUptoRow.holds Try.pinned (OpenSpec.upto codecApartSpec)

/-- 'erasurelaw26.CodecRecords', WHERE WHAT IT READS IS OF BULK AT MOST 1048576: true; the input reads as it did. -/
def codecRecordsUptoRow : OpenClaim := { program := "ytkeiffccllfkpaa", sum := "45d895cfe5ff8237665e14ff29558d30a58eb228bd74a849a9787a52d67b94c2", func := "erasure/erasurelaw26.CodecRecords", spec := "codecRecords", unfollowed := true, recurses := true, apart := false, narrowed := true }
def CodecRecordsUptoSaid : Prop := codecRecordsUptoRow.holds Try.pinned (OpenSpec.upto codecRecordsSpec)

/-- 'erasurelaw26.CodecCuts', WHERE WHAT IT READS IS OF BULK AT MOST 1048576: true; the input reads as it did. -/
def codecCutsUptoRow : OpenClaim := { program := "ytkeiffccllfkpaa", sum := "45d895cfe5ff8237665e14ff29558d30a58eb228bd74a849a9787a52d67b94c2", func := "erasure/erasurelaw26.CodecCuts", spec := "codecCuts", unfollowed := true, recurses := true, apart := false, narrowed := true }
def CodecCutsUptoSaid : Prop := codecCutsUptoRow.holds Try.pinned (OpenSpec.upto codecCutsSpec)

/-- 'erasurelaw26.CodecRequests', WHERE WHAT IT READS IS OF BULK AT MOST 1048576: true; the input reads as it did. -/
def codecRequestsUptoRow : OpenClaim := { program := "ytkeiffccllfkpaa", sum := "45d895cfe5ff8237665e14ff29558d30a58eb228bd74a849a9787a52d67b94c2", func := "erasure/erasurelaw26.CodecRequests", spec := "codecRequests", unfollowed := true, recurses := true, apart := false, narrowed := true }
def CodecRequestsUptoSaid : Prop := codecRequestsUptoRow.holds Try.pinned (OpenSpec.upto codecRequestsSpec)

/-- 'erasurelaw26.CodecReads', WHERE WHAT IT READS IS OF BULK AT MOST 1048576: true; the input reads as it did. -/
def codecReadsUptoRow : OpenClaim := { program := "ytkeiffccllfkpaa", sum := "45d895cfe5ff8237665e14ff29558d30a58eb228bd74a849a9787a52d67b94c2", func := "erasure/erasurelaw26.CodecReads", spec := "codecReads", unfollowed := true, recurses := true, apart := false, narrowed := true }
def CodecReadsUptoSaid : Prop := codecReadsUptoRow.holds Try.pinned (OpenSpec.upto codecReadsSpec)

/-- 'erasurelaw26.CodecEntries', WHERE WHAT IT READS IS OF BULK AT MOST 1048576: true; the input reads as it did. -/
def codecEntriesUptoRow : OpenClaim := { program := "ytkeiffccllfkpaa", sum := "45d895cfe5ff8237665e14ff29558d30a58eb228bd74a849a9787a52d67b94c2", func := "erasure/erasurelaw26.CodecEntries", spec := "codecEntries", unfollowed := true, recurses := true, apart := false, narrowed := true }
def CodecEntriesUptoSaid : Prop := codecEntriesUptoRow.holds Try.pinned (OpenSpec.upto codecEntriesSpec)

/-- 'erasurelaw26.CodecOnly', WHERE WHAT IT READS IS OF BULK AT MOST 1048576: true; the input reads as it did. -/
def codecOnlyUptoRow : OpenClaim := { program := "ytkeiffccllfkpaa", sum := "45d895cfe5ff8237665e14ff29558d30a58eb228bd74a849a9787a52d67b94c2", func := "erasure/erasurelaw26.CodecOnly", spec := "codecOnly", unfollowed := true, recurses := true, apart := false, narrowed := true }
def CodecOnlyUptoSaid : Prop := codecOnlyUptoRow.holds Try.pinned (OpenSpec.upto codecOnlySpec)

end Rows
end Go.Proofs.Ytkeiffccllfkpaa
