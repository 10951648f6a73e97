/- TopJoint: what is run for each pattern of persons. -/
import Derived.Test.YtbddollbjajcnaaGreatNK
import Derived.Test.YtbddollbjajcnaaGreatNB
namespace Go.Proofs.YtbddollbjajcnaaGreat
open Go
noncomputable section
set_option linter.unusedVariables false
def hookJ : CallF := orH nextHook (orH (memoX memoT) catHook)
theorem fnE_next : FnE Tryz.prog 9 := FnE.of Tryz.func9 (by kernel_rfl) rfl
theorem hookJ_ok : hookJ.OK Tryz.prog := orH_ok (nextHook_ok fnE_next) (orH_ok (memoX_ok memoT_ok) catHook_ok)
def restC : Option Code → Code
  | some (.seq _ (.seq _ r)) => r
  | _ => .skip
noncomputable def restJ : Code := restC Tryz.f3.body
def tapeN : XP := .odd (.even .one)
def rowN : XP := .even (.odd .one)
def heap0 : XT XO := XT.put (some .hid) tapeN .leaf
def st0 (sc : List XC) : XS := ⟨heap0, memoN, ⟨0, some (tapeN, rowN), sc, .leaf⟩⟩
def frame0 : XF := ⟨XT.put (some (.one (.ptr (some (tapeN, 0))))) (XP.key 3) (XT.put (some (.one (.bool false))) (XP.key 2) .leaf), 128⟩
noncomputable def runJ (sc : List XC) : Option (List (XV × XS)) := ob (runX Tryz.prog tb hookJ sb44 1000000 restJ frame0 (st0 sc)) (leaveX Tryz.prog Tryz.f3)
noncomputable def jointB (sc : List XC) : Bool := match runJ sc with
  | some l => sameAll (.one (.bool true)) l
  | none => false
theorem restJ_ok : okC restJ = true := by kernel_rfl
/-- person i, as the tape gives it: one less -/
def pr (i : Nat) : XC := .per .i64 (XP.ofF 4 i) true
def script (a b : Nat) (r : List Nat) : List XC := pr a :: pr b :: .int .i64 (Int.ofNat r.length) :: r.map pr
/-- all these patterns run to true -/
inductive AllJ : List (Nat × Nat × List Nat) → Prop where
  | nil : AllJ []
  | cons {a b : Nat} {r : List Nat} {l : List (Nat × Nat × List Nat)} (h : jointB (script a b r) = true) (k : AllJ l) : AllJ ((a, b, r) :: l)
theorem AllJ.mem {l : List (Nat × Nat × List Nat)} (h : AllJ l) : ∀ p ∈ l, jointB (script p.1 p.2.1 p.2.2) = true := by
  induction h with
  | nil => intro p hp; cases hp
  | cons h _ ih =>
    intro p hp
    rcases List.mem_cons.1 hp with rfl | hp
    · exact h
    · exact ih p hp
end
end Go.Proofs.YtbddollbjajcnaaGreat
