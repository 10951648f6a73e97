/-
  No cell of these rows narrows 'for every input' (looked for: loops, veiled, ifaces, maps, wideKeys, modest, calm, conditions, laid).
  DERIVED. THE GIVEN ROWS OF THIS SEAT. 9 by the template 'for every input the law returns true; each argument reads behind the call as it read before'; 0 by the template 'total and deterministic' (their statements: YtbfjfnbcmojpiaaGreatTotals.lean).
  GIVEN WITH THE SEED: the statements are not yours to turn. If you find one false, say at which input.
  Laid BY PROGRAM, IN A SANDBOX (cutbox-rows.mjs): the forced cells as the released guide's own fill.sh prints them over the translation 23936311ca01ec0b… (all of the seat's roots in one cut). By AI agents, Wed Nov 11 2026. No macro, syntax, notation, axiom, sorry.
-/
import Derived.Test.YtbfjfnbcmojpiaaGreatChecked
import GoSem.Claim
import GoSem.ClaimJoined
import GoSem.ClaimMapViews
import Derived.JoinedTies
import Derived.KernelRfl
namespace Go.Proofs.YtbfjfnbcmojpiaaGreat
/- THE CELL 'sum', in the pinned program and in every row, IS THE sha256 OF THE DUMP (.gsa) THAT YtbfjfnbcmojpiaaGreatProg.lean LOADS. Nothing in Lean hashes anything: it is a label: what it is worth is what the hold of that sum in a sandbox is worth. -/
noncomputable def Tryz.pinned : Pinned := { name := "ytbfjfnbcmojpiaagreat", sum := "23936311ca01ec0bb430de6d66efd6937b960837044983b26125c6f3eabd17bb", checked := Tryz.checked }
namespace Rows
def none {H : Type} : Left H := { results := [], args := [] }

/-- 'erasurelaw28.CipherSeals': WHATEVER THE INPUT: true; the input reads as it did. -/
def cipherSealsSpec : ChangeSpec := { name := "cipherSeals", fn := fun _ => fun
  | [d1, d2, d3] => { results := [.lit (.bool true)], args := [d1, d2, d3] }
  | _ => none }
def cipherSealsRow : OpenClaim := { program := "ytbfjfnbcmojpiaagreat", sum := "23936311ca01ec0bb430de6d66efd6937b960837044983b26125c6f3eabd17bb", func := "erasure/erasurelaw28.CipherSeals", spec := "cipherSeals", inPlace := ["internal/bytealg.Compare", "slices.overlaps[erasure/api.VaultKey]"], unfollowed := true, recurses := true, apart := false }
def CipherSealsSaid : Prop := cipherSealsRow.holds Tryz.pinned (OpenSpec.ofChange cipherSealsSpec)

/-- ITS FALSE NEIGHBOUR: 'it returns false'. Refute it at one input. -/
def cipherSealsWrong : ChangeSpec := { name := "cipherSeals", fn := fun _ => fun
  | [d1, d2, d3] => { results := [.lit (.bool false)], args := [d1, d2, d3] }
  | _ => none }
def CipherSealsWrongFalsely : Prop := cipherSealsRow.holds Tryz.pinned (OpenSpec.ofChange cipherSealsWrong)

/-- 'erasurelaw28.CipherDamage': WHATEVER THE INPUT: true; the input reads as it did. -/
def cipherDamageSpec : ChangeSpec := { name := "cipherDamage", fn := fun _ => fun
  | [d1, d2, d3] => { results := [.lit (.bool true)], args := [d1, d2, d3] }
  | _ => none }
def cipherDamageRow : OpenClaim := { program := "ytbfjfnbcmojpiaagreat", sum := "23936311ca01ec0bb430de6d66efd6937b960837044983b26125c6f3eabd17bb", func := "erasure/erasurelaw28.CipherDamage", spec := "cipherDamage", inPlace := ["internal/bytealg.Compare", "slices.overlaps[erasure/api.VaultKey]"], unfollowed := true, recurses := true, apart := false }
def CipherDamageSaid : Prop := cipherDamageRow.holds Tryz.pinned (OpenSpec.ofChange cipherDamageSpec)

/-- ITS FALSE NEIGHBOUR: 'it returns false'. Refute it at one input. -/
def cipherDamageWrong : ChangeSpec := { name := "cipherDamage", fn := fun _ => fun
  | [d1, d2, d3] => { results := [.lit (.bool false)], args := [d1, d2, d3] }
  | _ => none }
def CipherDamageWrongFalsely : Prop := cipherDamageRow.holds Tryz.pinned (OpenSpec.ofChange cipherDamageWrong)

/-- 'erasurelaw28.CipherClear': WHATEVER THE INPUT: true; the input reads as it did. -/
def cipherClearSpec : ChangeSpec := { name := "cipherClear", fn := fun _ => fun
  | [d1, d2, d3] => { results := [.lit (.bool true)], args := [d1, d2, d3] }
  | _ => none }
def cipherClearRow : OpenClaim := { program := "ytbfjfnbcmojpiaagreat", sum := "23936311ca01ec0bb430de6d66efd6937b960837044983b26125c6f3eabd17bb", func := "erasure/erasurelaw28.CipherClear", spec := "cipherClear", inPlace := ["internal/bytealg.Compare", "slices.overlaps[erasure/api.VaultKey]"], unfollowed := true, recurses := true, apart := false }
def CipherClearSaid : Prop := cipherClearRow.holds Tryz.pinned (OpenSpec.ofChange cipherClearSpec)

/-- ITS FALSE NEIGHBOUR: 'it returns false'. Refute it at one input. -/
def cipherClearWrong : ChangeSpec := { name := "cipherClear", fn := fun _ => fun
  | [d1, d2, d3] => { results := [.lit (.bool false)], args := [d1, d2, d3] }
  | _ => none }
def CipherClearWrongFalsely : Prop := cipherClearRow.holds Tryz.pinned (OpenSpec.ofChange cipherClearWrong)

/-- 'erasurelaw28.CipherOpens': WHATEVER THE INPUT: true; the input reads as it did. -/
def cipherOpensSpec : ChangeSpec := { name := "cipherOpens", fn := fun _ => fun
  | [d1, d2] => { results := [.lit (.bool true)], args := [d1, d2] }
  | _ => none }
def cipherOpensRow : OpenClaim := { program := "ytbfjfnbcmojpiaagreat", sum := "23936311ca01ec0bb430de6d66efd6937b960837044983b26125c6f3eabd17bb", func := "erasure/erasurelaw28.CipherOpens", spec := "cipherOpens", inPlace := ["internal/bytealg.Compare", "slices.overlaps[erasure/api.VaultKey]"], unfollowed := true, recurses := true, apart := false }
def CipherOpensSaid : Prop := cipherOpensRow.holds Tryz.pinned (OpenSpec.ofChange cipherOpensSpec)

/-- ITS FALSE NEIGHBOUR: 'it returns false'. Refute it at one input. -/
def cipherOpensWrong : ChangeSpec := { name := "cipherOpens", fn := fun _ => fun
  | [d1, d2] => { results := [.lit (.bool false)], args := [d1, d2] }
  | _ => none }
def CipherOpensWrongFalsely : Prop := cipherOpensRow.holds Tryz.pinned (OpenSpec.ofChange cipherOpensWrong)

/-- 'erasurelaw28.CipherBack': WHATEVER THE INPUT: true; the input reads as it did. -/
def cipherBackSpec : ChangeSpec := { name := "cipherBack", fn := fun _ => fun
  | [d1, d2] => { results := [.lit (.bool true)], args := [d1, d2] }
  | _ => none }
def cipherBackRow : OpenClaim := { program := "ytbfjfnbcmojpiaagreat", sum := "23936311ca01ec0bb430de6d66efd6937b960837044983b26125c6f3eabd17bb", func := "erasure/erasurelaw28.CipherBack", spec := "cipherBack", inPlace := ["internal/bytealg.Compare", "slices.overlaps[erasure/api.VaultKey]"], unfollowed := true, recurses := true, apart := false }
def CipherBackSaid : Prop := cipherBackRow.holds Tryz.pinned (OpenSpec.ofChange cipherBackSpec)

/-- ITS FALSE NEIGHBOUR: 'it returns false'. Refute it at one input. -/
def cipherBackWrong : ChangeSpec := { name := "cipherBack", fn := fun _ => fun
  | [d1, d2] => { results := [.lit (.bool false)], args := [d1, d2] }
  | _ => none }
def CipherBackWrongFalsely : Prop := cipherBackRow.holds Tryz.pinned (OpenSpec.ofChange cipherBackWrong)

/-- 'erasurelaw28.CipherDrops': WHATEVER THE INPUT: true; the input reads as it did. -/
def cipherDropsSpec : ChangeSpec := { name := "cipherDrops", fn := fun _ => fun
  | [d1, d2] => { results := [.lit (.bool true)], args := [d1, d2] }
  | _ => none }
def cipherDropsRow : OpenClaim := { program := "ytbfjfnbcmojpiaagreat", sum := "23936311ca01ec0bb430de6d66efd6937b960837044983b26125c6f3eabd17bb", func := "erasure/erasurelaw28.CipherDrops", spec := "cipherDrops", inPlace := ["internal/bytealg.Compare", "slices.overlaps[erasure/api.VaultKey]"], unfollowed := true, recurses := true, apart := false }
def CipherDropsSaid : Prop := cipherDropsRow.holds Tryz.pinned (OpenSpec.ofChange cipherDropsSpec)

/-- ITS FALSE NEIGHBOUR: 'it returns false'. Refute it at one input. -/
def cipherDropsWrong : ChangeSpec := { name := "cipherDrops", fn := fun _ => fun
  | [d1, d2] => { results := [.lit (.bool false)], args := [d1, d2] }
  | _ => none }
def CipherDropsWrongFalsely : Prop := cipherDropsRow.holds Tryz.pinned (OpenSpec.ofChange cipherDropsWrong)

/-- 'erasurelaw28.CipherShreds': WHATEVER THE INPUT: true; the input reads as it did. -/
def cipherShredsSpec : ChangeSpec := { name := "cipherShreds", fn := fun _ => fun
  | [d1, d2, d3] => { results := [.lit (.bool true)], args := [d1, d2, d3] }
  | _ => none }
def cipherShredsRow : OpenClaim := { program := "ytbfjfnbcmojpiaagreat", sum := "23936311ca01ec0bb430de6d66efd6937b960837044983b26125c6f3eabd17bb", func := "erasure/erasurelaw28.CipherShreds", spec := "cipherShreds", inPlace := ["internal/bytealg.Compare", "slices.overlaps[erasure/api.VaultKey]"], unfollowed := true, recurses := true, apart := false }
def CipherShredsSaid : Prop := cipherShredsRow.holds Tryz.pinned (OpenSpec.ofChange cipherShredsSpec)

/-- ITS FALSE NEIGHBOUR: 'it returns false'. Refute it at one input. -/
def cipherShredsWrong : ChangeSpec := { name := "cipherShreds", fn := fun _ => fun
  | [d1, d2, d3] => { results := [.lit (.bool false)], args := [d1, d2, d3] }
  | _ => none }
def CipherShredsWrongFalsely : Prop := cipherShredsRow.holds Tryz.pinned (OpenSpec.ofChange cipherShredsWrong)

/-- 'erasurelaw28.CipherAlone': WHATEVER THE INPUT: true; the input reads as it did. -/
def cipherAloneSpec : ChangeSpec := { name := "cipherAlone", fn := fun _ => fun
  | [d1, d2, d3] => { results := [.lit (.bool true)], args := [d1, d2, d3] }
  | _ => none }
def cipherAloneRow : OpenClaim := { program := "ytbfjfnbcmojpiaagreat", sum := "23936311ca01ec0bb430de6d66efd6937b960837044983b26125c6f3eabd17bb", func := "erasure/erasurelaw28.CipherAlone", spec := "cipherAlone", inPlace := ["internal/bytealg.Compare", "slices.overlaps[erasure/api.VaultKey]"], unfollowed := true, recurses := true, apart := false }
def CipherAloneSaid : Prop := cipherAloneRow.holds Tryz.pinned (OpenSpec.ofChange cipherAloneSpec)

/-- ITS FALSE NEIGHBOUR: 'it returns false'. Refute it at one input. -/
def cipherAloneWrong : ChangeSpec := { name := "cipherAlone", fn := fun _ => fun
  | [d1, d2, d3] => { results := [.lit (.bool false)], args := [d1, d2, d3] }
  | _ => none }
def CipherAloneWrongFalsely : Prop := cipherAloneRow.holds Tryz.pinned (OpenSpec.ofChange cipherAloneWrong)

/-- 'erasurelaw28.CipherOthers': WHATEVER THE INPUT: true; the input reads as it did. -/
def cipherOthersSpec : ChangeSpec := { name := "cipherOthers", fn := fun _ => fun
  | [d1, d2, d3] => { results := [.lit (.bool true)], args := [d1, d2, d3] }
  | _ => none }
def cipherOthersRow : OpenClaim := { program := "ytbfjfnbcmojpiaagreat", sum := "23936311ca01ec0bb430de6d66efd6937b960837044983b26125c6f3eabd17bb", func := "erasure/erasurelaw28.CipherOthers", spec := "cipherOthers", inPlace := ["internal/bytealg.Compare", "slices.overlaps[erasure/api.VaultKey]"], unfollowed := true, recurses := true, apart := false }
def CipherOthersSaid : Prop := cipherOthersRow.holds Tryz.pinned (OpenSpec.ofChange cipherOthersSpec)

/-- ITS FALSE NEIGHBOUR: 'it returns false'. Refute it at one input. -/
def cipherOthersWrong : ChangeSpec := { name := "cipherOthers", fn := fun _ => fun
  | [d1, d2, d3] => { results := [.lit (.bool false)], args := [d1, d2, d3] }
  | _ => none }
def CipherOthersWrongFalsely : Prop := cipherOthersRow.holds Tryz.pinned (OpenSpec.ofChange cipherOthersWrong)

/- THE SECOND FORM. 'bulk': how many values and letters a reading holds, each counted each time it is reached (what is shared counts as often as it is met; a slice's spare places count too). A statement '..UptoSaid' is the law's where the arguments, and the package variables that the reading takes, are together of bulk at most 1048576: NARROWER than '..Said'. Prove '..Said' where nothing that the law and all that it calls make is longer than what came in: it says more and counts as full. Else prove '..UptoSaid'. A law counts once. -/
mutual
def uptoBulk {H : Type} : DataW H → Nat
  | .lit (.string bytes) => bytes.length + 1
  | .lit _ => 1
  | .nil => 1
  | .ptr d => uptoBulk d + 1
  | .slice elems spare => uptoBulkAll elems + uptoBulkAll spare + 1
  | .agg parts => uptoBulkAll parts + 1
  | .iface _ d => uptoBulk d + 1
  | .map entries => uptoBulkEntries entries + 1
  | .held _ => 1
def uptoBulkAll {H : Type} : List (DataW H) → Nat
  | [] => 0
  | d :: r => uptoBulk d + uptoBulkAll r
def uptoBulkEntries {H : Type} : List (Lit × DataW H) → Nat
  | [] => 0
  | x :: r => uptoBulkEntry x + uptoBulkEntries r
def uptoBulkEntry {H : Type} : Lit × DataW H → Nat
  | (.string bytes, d) => bytes.length + uptoBulk d + 1
  | (_, d) => uptoBulk d + 1
 end
def uptoSmall : (H : Type) → List (DataW H) → Bool := fun _ ds => decide (uptoBulkAll ds ≤ 1048576)
def OpenSpec.upto (s : _root_.Go.ChangeSpec) : _root_.Go.OpenSpec := { _root_.Go.OpenSpec.ofChange s with cond := some uptoSmall }

/-- 'erasurelaw28.CipherSeals', WHERE WHAT IT READS IS OF BULK AT MOST 1048576: true; the input reads as it did. -/
def cipherSealsUptoRow : OpenClaim := { program := "ytbfjfnbcmojpiaagreat", sum := "23936311ca01ec0bb430de6d66efd6937b960837044983b26125c6f3eabd17bb", func := "erasure/erasurelaw28.CipherSeals", spec := "cipherSeals", inPlace := ["internal/bytealg.Compare", "slices.overlaps[erasure/api.VaultKey]"], unfollowed := true, recurses := true, apart := false, narrowed := true }
def CipherSealsUptoSaid : Prop := cipherSealsUptoRow.holds Tryz.pinned (OpenSpec.upto cipherSealsSpec)

/-- 'erasurelaw28.CipherDamage', WHERE WHAT IT READS IS OF BULK AT MOST 1048576: true; the input reads as it did. -/
def cipherDamageUptoRow : OpenClaim := { program := "ytbfjfnbcmojpiaagreat", sum := "23936311ca01ec0bb430de6d66efd6937b960837044983b26125c6f3eabd17bb", func := "erasure/erasurelaw28.CipherDamage", spec := "cipherDamage", inPlace := ["internal/bytealg.Compare", "slices.overlaps[erasure/api.VaultKey]"], unfollowed := true, recurses := true, apart := false, narrowed := true }
def CipherDamageUptoSaid : Prop := cipherDamageUptoRow.holds Tryz.pinned (OpenSpec.upto cipherDamageSpec)

/-- 'erasurelaw28.CipherClear', WHERE WHAT IT READS IS OF BULK AT MOST 1048576: true; the input reads as it did. -/
def cipherClearUptoRow : OpenClaim := { program := "ytbfjfnbcmojpiaagreat", sum := "23936311ca01ec0bb430de6d66efd6937b960837044983b26125c6f3eabd17bb", func := "erasure/erasurelaw28.CipherClear", spec := "cipherClear", inPlace := ["internal/bytealg.Compare", "slices.overlaps[erasure/api.VaultKey]"], unfollowed := true, recurses := true, apart := false, narrowed := true }
def CipherClearUptoSaid : Prop := cipherClearUptoRow.holds Tryz.pinned (OpenSpec.upto cipherClearSpec)

/-- 'erasurelaw28.CipherOpens', WHERE WHAT IT READS IS OF BULK AT MOST 1048576: true; the input reads as it did. -/
def cipherOpensUptoRow : OpenClaim := { program := "ytbfjfnbcmojpiaagreat", sum := "23936311ca01ec0bb430de6d66efd6937b960837044983b26125c6f3eabd17bb", func := "erasure/erasurelaw28.CipherOpens", spec := "cipherOpens", inPlace := ["internal/bytealg.Compare", "slices.overlaps[erasure/api.VaultKey]"], unfollowed := true, recurses := true, apart := false, narrowed := true }
def CipherOpensUptoSaid : Prop := cipherOpensUptoRow.holds Tryz.pinned (OpenSpec.upto cipherOpensSpec)

/-- 'erasurelaw28.CipherBack', WHERE WHAT IT READS IS OF BULK AT MOST 1048576: true; the input reads as it did. -/
def cipherBackUptoRow : OpenClaim := { program := "ytbfjfnbcmojpiaagreat", sum := "23936311ca01ec0bb430de6d66efd6937b960837044983b26125c6f3eabd17bb", func := "erasure/erasurelaw28.CipherBack", spec := "cipherBack", inPlace := ["internal/bytealg.Compare", "slices.overlaps[erasure/api.VaultKey]"], unfollowed := true, recurses := true, apart := false, narrowed := true }
def CipherBackUptoSaid : Prop := cipherBackUptoRow.holds Tryz.pinned (OpenSpec.upto cipherBackSpec)

/-- 'erasurelaw28.CipherDrops', WHERE WHAT IT READS IS OF BULK AT MOST 1048576: true; the input reads as it did. -/
def cipherDropsUptoRow : OpenClaim := { program := "ytbfjfnbcmojpiaagreat", sum := "23936311ca01ec0bb430de6d66efd6937b960837044983b26125c6f3eabd17bb", func := "erasure/erasurelaw28.CipherDrops", spec := "cipherDrops", inPlace := ["internal/bytealg.Compare", "slices.overlaps[erasure/api.VaultKey]"], unfollowed := true, recurses := true, apart := false, narrowed := true }
def CipherDropsUptoSaid : Prop := cipherDropsUptoRow.holds Tryz.pinned (OpenSpec.upto cipherDropsSpec)

/-- 'erasurelaw28.CipherShreds', WHERE WHAT IT READS IS OF BULK AT MOST 1048576: true; the input reads as it did. -/
def cipherShredsUptoRow : OpenClaim := { program := "ytbfjfnbcmojpiaagreat", sum := "23936311ca01ec0bb430de6d66efd6937b960837044983b26125c6f3eabd17bb", func := "erasure/erasurelaw28.CipherShreds", spec := "cipherShreds", inPlace := ["internal/bytealg.Compare", "slices.overlaps[erasure/api.VaultKey]"], unfollowed := true, recurses := true, apart := false, narrowed := true }
def CipherShredsUptoSaid : Prop := cipherShredsUptoRow.holds Tryz.pinned (OpenSpec.upto cipherShredsSpec)

/-- 'erasurelaw28.CipherAlone', WHERE WHAT IT READS IS OF BULK AT MOST 1048576: true; the input reads as it did. -/
def cipherAloneUptoRow : OpenClaim := { program := "ytbfjfnbcmojpiaagreat", sum := "23936311ca01ec0bb430de6d66efd6937b960837044983b26125c6f3eabd17bb", func := "erasure/erasurelaw28.CipherAlone", spec := "cipherAlone", inPlace := ["internal/bytealg.Compare", "slices.overlaps[erasure/api.VaultKey]"], unfollowed := true, recurses := true, apart := false, narrowed := true }
def CipherAloneUptoSaid : Prop := cipherAloneUptoRow.holds Tryz.pinned (OpenSpec.upto cipherAloneSpec)

/-- 'erasurelaw28.CipherOthers', WHERE WHAT IT READS IS OF BULK AT MOST 1048576: true; the input reads as it did. -/
def cipherOthersUptoRow : OpenClaim := { program := "ytbfjfnbcmojpiaagreat", sum := "23936311ca01ec0bb430de6d66efd6937b960837044983b26125c6f3eabd17bb", func := "erasure/erasurelaw28.CipherOthers", spec := "cipherOthers", inPlace := ["internal/bytealg.Compare", "slices.overlaps[erasure/api.VaultKey]"], unfollowed := true, recurses := true, apart := false, narrowed := true }
def CipherOthersUptoSaid : Prop := cipherOthersUptoRow.holds Tryz.pinned (OpenSpec.upto cipherOthersSpec)

end Rows
end Go.Proofs.YtbfjfnbcmojpiaaGreat
