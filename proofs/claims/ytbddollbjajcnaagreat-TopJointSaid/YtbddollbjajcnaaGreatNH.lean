/- The law TopJoint of erasuretop returns true for every input, and the argument reads behind the call as it read before. No conditions beyond the given statement's own. -/
import Derived.Test.YtbddollbjajcnaaGreatNL
import Derived.Test.YtbddollbjajcnaaGreatR0
import Derived.Test.YtbddollbjajcnaaGreatR1
import Derived.Test.YtbddollbjajcnaaGreatR2
import Derived.Test.YtbddollbjajcnaaGreatR3
import Derived.Test.YtbddollbjajcnaaGreatR4
import Derived.Test.YtbddollbjajcnaaGreatR5
import Derived.Test.YtbddollbjajcnaaGreatR6
import Derived.Test.YtbddollbjajcnaaGreatR7
import Derived.Test.YtbddollbjajcnaaGreatR8
import Derived.Test.YtbddollbjajcnaaGreatR9
import Derived.Test.YtbddollbjajcnaaGreatR10
import Derived.Test.YtbddollbjajcnaaGreatR11
import Derived.Test.YtbddollbjajcnaaGreatR12
import Derived.Test.YtbddollbjajcnaaGreatRows
import Derived.Test.YtbddollbjajcnaaGreatNG
import Derived.Test.YtbddollbjajcnaaGreatNJ
import Derived.Below
import Derived.WalkKit
import Derived.ProofKit
import Derived.OpenShut
import Derived.ChangeSlices
import Derived.SizedLaws
namespace Go.Proofs.YtbddollbjajcnaaGreat
open Go Go.RowKit
theorem AllJ.append {l m : List (Nat × Nat × List Nat)} (h : AllJ l) (k : AllJ m) : AllJ (l ++ m) := by
  induction h with
  | nil => exact k
  | cons h _ ih => exact .cons h ih
def allPats : List Pat := pats0 ++ (pats1 ++ (pats2 ++ (pats3 ++ (pats4 ++ (pats5 ++ (pats6 ++ (pats7 ++ (pats8 ++ (pats9 ++ (pats10 ++ (pats11 ++ pats12)))))))))))
theorem allPats_ok : AllJ allPats := jall0.append (jall1.append (jall2.append (jall3.append (jall4.append (jall5.append (jall6.append (jall7.append (jall8.append (jall9.append (jall10.append (jall11.append jall12)))))))))))
theorem pats_sub : (pats.all fun p => memP p.1 p.2.1 p.2.2 allPats) = true := by kernel_rfl
theorem pats_ok : ∀ p ∈ pats, jointB (script p.1 p.2.1 p.2.2) = true := fun p hp => allPats_ok.mem p (memP_ok (List.all_eq_true.1 pats_sub p hp))
end Go.Proofs.YtbddollbjajcnaaGreat
namespace Go.Proofs.YtbddollbjajcnaaGreat
open Go Go.ChangeShapes Go.WideShapes Go.ChangeAt Go.RowKit

theorem own : ownKnob Tryz.prog.godebug = none := by kernel_rfl
theorem laidOut : laidOutB Tryz.prog = true := by kernel_rfl
theorem below_of {a b : World} (h : a.grownBy b none) : Below a.heap.size a b :=
  ⟨h.os, h.tape, h.output, h.size, fun i hi => h.block i hi (by simp)⟩
theorem int_und : Tryz.prog.underlying 3 = some (.int .i64) := by kernel_rfl
theorem int_cells : Tryz.prog.cellsOf 3 = 1 := by kernel_rfl
theorem int_bytes : Tryz.prog.bytesOf 3 = 8 := by kernel_rfl
theorem bool_und : Tryz.prog.underlying 4 = some .bool := by kernel_rfl
set_option maxRecDepth 100000 in
/-- the argument: numbers, of bounded bulk -/
theorem open_arg {H : Type} {enc : TypeId × Value → H} {W : World} {base : Nat} {v : Value} {d : DataW H} {p : List MemPlace} (hv : Value.okWide Tryz.prog W .any base 22 v) (h : DataW.Trod enc Tryz.prog W 0 (fun _ => true) true 22 v d p)
    (hsz : (DataW.weightsEach Tryz.prog [22] [d]).all (· ≤ reachBytes) = true) :
    ∃ (b0 : Option Addr) (n cap : Nat) (xs : List Int), v = .slice b0 n cap ∧ xs.length = n ∧ (b0 = none → n = 0) ∧ (∀ j x, xs[j]? = some x → ∀ a, b0 = some a → W.cell? (a.add j) = some (.int .i64 x)) ∧ n * 8 ≤ 140737488355328 := by
  obtain ⟨a, len, cap, rfl⟩ := okWide_slice ints_und hv
  obtain ⟨fuel, hf⟩ := h
  rcases open_ints ints_und int_und int_cells hf with ⟨hcs, _⟩ | ⟨x, l, c, zs, hcs, _, hl, hm, hz, hd, hc, _⟩
  · simp [Value.cells] at hcs
    obtain ⟨rfl, rfl, rfl⟩ := hcs
    exact ⟨none, 0, 0, [], rfl, rfl, fun _ => rfl, fun j x hj => by simp at hj, by omega⟩
  · simp [Value.cells] at hcs
    obtain ⟨rfl, rfl, rfl⟩ := hcs
    rw [if_pos rfl] at hz
    have hlen : (zs.take len).length = len := by rw [List.length_take]; omega
    have hd1 : d = .slice (lits .i64 (zs.take len)) (lits .i64 (zs.drop len)) := congrArg Prod.fst hd
    have hs := sized_slice hsz (j := 0) (t := 22) rfl (by rw [hd1]; rfl) ints_und
    rw [int_bytes] at hs
    have e1 : (lits (H := H) .i64 (zs.take len)).length = len := by unfold lits; rw [List.length_map, hlen]
    rw [e1] at hs
    have hrb : reachBytes < 2 ^ 47 := reachBytes_lt
    refine ⟨some x, len, cap, zs.take len, rfl, hlen, (fun h => by cases h), fun j y hj a ha => ?_, ?_⟩
    · cases ha
      have hj1 : j < len := by have := (List.getElem?_eq_some_iff.1 hj).1; omega
      rw [List.getElem?_take_of_lt hj1] at hj
      have := hc j (by omega)
      rw [List.getD_eq_getElem?_getD, hj] at this
      exact this
    · have : len * 8 ≤ (len + (lits (H := H) .i64 (zs.drop len)).length) * 8 := Nat.mul_le_mul_right _ (Nat.le_add_right _ _)
      omega

set_option maxRecDepth 100000 in
theorem topJoint_lifted (os : Os) (started : os.Started) (H : Type) (enc : TypeId × Value → H) :
    ReturnsInHanded {} Tryz.checked os 3 .any (Rows.topJointSpec.pre6 enc Tryz.prog Tryz.f3 Rows.topJointRow.domain false) (Rows.topJointSpec.post enc Tryz.prog Tryz.f3 false true false false) := by
  refine returnsInHanded_of_change_sized (C := Tryz.checked) own started (by kernel_rfl) Tryz.func3
    (ChangeSpec.witness6 (enc := enc) (C := Tryz.checked) false ⟨#[], #[.slice none 0 0], []⟩ 8 (by kernel_rfl) (by kernel_rfl) (by kernel_rfl) (by kernel_rfl)) ?_
  intro W base args ds gs before hval0 hW hcnd hsz0 _
  have hval : ∀ (j : Nat) t v, Tryz.f3.params[j]? = some t → args[j]? = some v → Value.okWide Tryz.prog W .any base t v := hval0
  have hW' := hW
  obtain ⟨p, q, hA0, hV, rfl, hfz, hnd⟩ := hW
  have hA : DataW.TrodAll enc Tryz.prog W 0 (fun _ => true) true Tryz.f3.params.toList args.toList ds p := hA0
  rw [Tryz.params3] at hA hval
  obtain ⟨v0, vs0, d0, ds0, p0, q0, hargs, rfl, rfl, h0, r0⟩ := trodAll_cons hA
  obtain ⟨rfl, rfl, rfl⟩ := trodAll_nil r0
  obtain rfl : args = #[v0] := by cases args; simp_all
  obtain ⟨rfl, rfl⟩ := trodVars_none hV
  have k0 := h0
  have lt0 : ∀ x ∈ p0, x.block < W.heap.size := by obtain ⟨m, hm⟩ := k0; exact DataW.trod_lt m _ _ _ hm
  have hsz : (DataW.weightsEach Tryz.prog [22] [d0]).all (· ≤ reachBytes) = true := hsz0
  obtain ⟨b0, n, cap, xs, rfl, hn, hb, hx, hs⟩ := open_arg (hval 0 22 v0 rfl rfl) h0 hsz
  clear hA0 hval0 hval hsz0
  refine (joint_walk pats_ok W b0 n cap xs hn hb hx hs).mono fun e W' ⟨he, hgr⟩ => ?_
  subst he
  have bel := below_of hgr
  exact ⟨_, rfl, _, _, _, [], _, [], hW', trodAll_mk1 (shut_bool bool_und _), (trodAll_cons_mk (Below.trod laidOut (by kernel_rfl) (of_decide_eq_true (by kernel_rfl)) k0 bel lt0) trodAll_mk0), rfl, bel.frame _, fun h => by cases h⟩

set_option maxRecDepth 100000 in
theorem topJoint_over : Rows.topJointRow.holds Tryz.pinned (OpenSpec.ofChange Rows.topJointSpec) :=
  OpenClaim.holds_of_wide 3 Tryz.f3 rfl rfl rfl rfl rfl rfl rfl ⟨rfl, rfl, rfl, rfl, rfl⟩ rfl rfl rfl rfl rfl joint_named Tryz.func3 joint_facts
    (of_decide_eq_true (by kernel_rfl)) (by unfold Func.isWrapper; first | (rw [if_pos (by decide +kernel)]; kernel_rfl) | (rw [if_neg (by decide +kernel)]; exact ⟨rfl, rfl⟩))
    (fun os started H enc _ => topJoint_lifted os started H enc)

/-- the statement -/
theorem topJoint_proved : Rows.TopJointSaid := topJoint_over
#print axioms topJoint_proved
end Go.Proofs.YtbddollbjajcnaaGreat
