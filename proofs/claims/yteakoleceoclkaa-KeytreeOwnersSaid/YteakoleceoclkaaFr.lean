/- Key trees: what the arguments of the laws are. (printed by mkfr.py) -/
import Derived.Test.YteakoleceoclkaaMK5
import Derived.WalkKit
import Derived.ProofKit
import Derived.OpenShut
import Derived.ShutString
import Derived.ChangeOld
import Derived.Below
import Derived.Deep.Slices
namespace Go.Proofs.Yteakoleceoclkaa
open Go.ChangeShapes Go.WideShapes Go.ChangeAt Go.RowKit Go.Deep
open Go.ChangeMaps (open_string shut_string)
set_option linter.unusedSimpArgs false
set_option linter.unusedVariables false

theorem own : ownKnob Try.prog.godebug = none := by kernel_rfl
theorem laidOut : laidOutB Try.prog = true := by kernel_rfl

theorem list_of {α : Type} (p : Nat → α → Prop) : ∀ n, (∀ i, i < n → ∃ x, p i x) → ∃ l : List α, l.length = n ∧ ∀ i (h : i < l.length), p i l[i]
  | 0, _ => ⟨[], rfl, fun i h => by simp at h⟩
  | n + 1, h => by
    obtain ⟨l, hl, hp⟩ := list_of p n fun i hi => h i (by omega)
    obtain ⟨x, hx⟩ := h n (by omega)
    refine ⟨l ++ [x], by simp [hl], fun i hi => ?_⟩
    by_cases hin : i < l.length
    · rw [List.getElem_append_left hin]; exact hp i hin
    · have : i = l.length := by simp at hi; omega
      subst this
      rw [List.getElem_append_right (Nat.le_refl _)]
      simpa [hl] using hx
theorem okWide_array {P : Program} {w : World} {r : Reach} {base : Nat} {t : TypeId} {v : Value} {n : Nat} {e : TypeId} (ht : P.underlying t = some (.array n e)) (h : Value.okWide P w r base t v) : ∃ cs, v = .agg cs := by
  simp only [Value.okWide, ht] at h
  obtain ⟨cs, h1, _⟩ := h
  exact ⟨cs, h1⟩
theorem u8_range {a : Int} (h : (Lit.int .u8 a).wf = true) : 0 ≤ a ∧ a < 256 := by
  simp [Lit.wf] at h
  have e1 : IntKind.u8.min = 0 := by decide
  have e2 : IntKind.u8.max = 255 := by decide
  omega
theorem el_dig {H : Type} {enc : TypeId × Value → H} {W : World} {b0 : Nat} : ∀ fuel cs y, DataW.trod enc Try.prog W b0 (fun _ => true) true fuel 29 cs = some y → ∃ x : List Nat, cs = bv x ∧ x.length = 32 ∧ ∀ b ∈ x, b < 256 := by
  intro fuel cs y h
  obtain ⟨xs, k, _, _, hl, hxl, hf⟩ := DataW.trod_array Try.underlying29 h
  rw [cellsD] at hl
  rw [cells5'] at hf
  obtain ⟨L, hL, hp⟩ := list_of (fun i (b : Nat) => cs[i]? = some (.int .u8 (b : Int)) ∧ b < 256) 32 fun i hi => by
    have h1 := hf i hi
    rw [List.getElem?_eq_getElem (by omega)] at h1
    obtain ⟨n, h2, _, h3⟩ := DataW.trod_int Try.underlying5 h1
    have hr := u8_range h3
    refine ⟨n.toNat, ?_, by omega⟩
    have h4 : ((cs.drop (i * 1)).take 1)[0]? = some (.int .u8 n) := by rw [h2]; rfl
    rw [List.getElem?_take, if_pos (by omega), List.getElem?_drop, Nat.mul_one, Nat.add_zero] at h4
    rw [h4]
    congr 2
    omega
  refine ⟨L, ?_, hL, fun b hb => ?_⟩
  · apply List.ext_getElem?
    intro i
    by_cases hi : i < L.length
    · rw [(hp i hi).1]
      simp [bv, List.getElem?_eq_getElem hi]
    · rw [List.getElem?_eq_none (by omega), List.getElem?_eq_none (by rw [bv_length]; omega)]
  · obtain ⟨i, hi, rfl⟩ := List.getElem_of_mem hb
    exact (hp i hi).2
set_option maxRecDepth 100000 in
theorem open_dig {H : Type} {enc : TypeId × Value → H} {W : World} {r : Reach} {base b0 : Nat} {v : Value} {d : DataW H} {p : List MemPlace} (hv : Value.okWide Try.prog W r base 29 v) (h : DataW.Trod enc Try.prog W b0 (fun _ => true) true 29 v d p) : ∃ x : List Nat, v = dval x ∧ Dg x := by
  obtain ⟨cs, rfl⟩ := okWide_array Try.underlying29 hv
  obtain ⟨fuel, hf⟩ := h
  obtain ⟨x, h1, h2, h3⟩ := el_dig _ _ _ hf
  refine ⟨x, ?_, h2, h3⟩
  unfold dval
  rw [← h1]
  rfl
end Go.Proofs.Yteakoleceoclkaa
