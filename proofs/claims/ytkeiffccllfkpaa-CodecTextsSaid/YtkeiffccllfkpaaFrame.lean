/- What an argument of a law is told to be, in the words of the walks. -/
import Derived.Test.YtkeiffccllfkpaaLaw0
import Derived.WalkKit
import Derived.ProofKit
import Derived.OpenShut
import Derived.ShutString
import Derived.ChangeOld
import Derived.Below
namespace Go.Proofs.Ytkeiffccllfkpaa
open Go.ChangeShapes Go.WideShapes Go.ChangeAt Go.RowKit
open Go.ChangeMaps (open_string shut_string)

theorem own : ownKnob Try.prog.godebug = none := by kernel_rfl
theorem laidOut : laidOutB Try.prog = true := by kernel_rfl

theorem slice_lo {P : Program} {W : World} {r : Reach} {base : Nat} {t e : TypeId} {a : Option Addr} {len cap : Nat} (ht : P.underlying t = some (.slice e)) (h : Value.okWide P W r base t (.slice a len cap)) :
    Lo (.slice a len cap) W.heap.size ∧ (∀ x, a = some x → x.spot = none) ∧ len ≤ cap ∧ cap ≤ maxLen ∧ (a = none → cap = 0) := by
  simp only [Value.okWide, ht, Cell.okWide] at h
  cases a with
  | none =>
    have : len = 0 ∧ cap = 0 := by
      cases len with
      | zero => cases cap with
        | zero => exact ⟨rfl, rfl⟩
        | succ n => simp [Cell.ok, ht] at h
      | succ n => simp [Cell.ok, ht] at h
    obtain ⟨rfl, rfl⟩ := this
    exact ⟨fun k hk => (by simp [Value.ownBlock] at hk), fun x hx => (by cases hx), Nat.le_refl _, Nat.zero_le _, fun _ => rfl⟩
  | some x =>
    simp only [Cell.ok, ht] at h
    obtain ⟨h1, h2, _, h3, row, cells, h4, _⟩ := h
    refine ⟨fun k hk => ?_, fun y hy => (by cases hy; exact h3), h1, ?_, fun h => (by cases h)⟩
    · simp [Value.ownBlock] at hk
      subst hk
      unfold World.shape? at h4
      cases hb : W.heap[x.block]? with
      | none => simp [hb] at h4
      | some o => exact (Array.getElem?_eq_some_iff.1 hb).1
    · have : IntKind.i64.max = 9223372036854775807 := by decide
      unfold maxLen
      omega

set_option maxRecDepth 100000 in
theorem open_bytes {H : Type} {enc : TypeId × Value → H} {W : World} {r : Reach} {base b0 : Nat} {v : Value} {d : DataW H} {p : List MemPlace} (hv : Value.okWide Try.prog W r base 22 v) (h : DataW.Trod enc Try.prog W b0 (fun _ => true) true 22 v d p) :
    ∃ xs : List Nat, Sl W 1 v xs.length (bv xs) ∧ Lo v W.heap.size ∧ ∀ x ∈ xs, x < 256 := by
  obtain ⟨a, len, cap, rfl⟩ := okWide_slice Try.underlying22 hv
  obtain ⟨l1, l2, l3, l4, l5⟩ := slice_lo Try.underlying22 hv
  obtain ⟨fuel, hf⟩ := h
  rcases open_ints Try.underlying22 Try.underlying5 (by kernel_rfl) hf with ⟨hcs, _⟩ | ⟨x, l, c, zs, hcs, _, hl, hm, hz, _, hcell, hwz⟩
  · simp [Value.cells] at hcs
    obtain ⟨rfl, rfl, rfl⟩ := hcs
    exact ⟨[], Sl.nil _ _, l1, by simp⟩
  · simp [Value.cells] at hcs
    obtain ⟨rfl, rfl, rfl⟩ := hcs
    have hs := l2 x rfl
    obtain ⟨b, off, spot⟩ := x
    simp only at hs
    subst hs
    have hz' : zs.length = cap := by simpa using hz
    have hr : ∀ n ∈ zs, 0 ≤ n ∧ n ≤ 255 := fun n hn => by
      have := hwz n hn
      simp [Lit.wf] at this
      have e1 : IntKind.u8.min = 0 := by decide
      have e2 : IntKind.u8.max = 255 := by decide
      omega
    have hlen : (zs.take len).length = len := by simp; omega
    refine ⟨(zs.take len).map Int.toNat, ?_, l1, ?_⟩
    · rw [List.length_map, hlen]
      refine ⟨by rw [bv_length, List.length_map, hlen, Nat.mul_one], _, _, rfl, hl, hm, fun h => (by cases h), fun a ha => ?_⟩
      obtain rfl := Option.some.inj ha
      refine ⟨rfl, fun j u hu => ?_⟩
      have hj : j < len := by have := (List.getElem?_eq_some_iff.1 hu).1; rwa [bv_length, List.length_map, hlen] at this
      have hc := hcell j (by omega)
      rw [Addr.add_lit] at hc
      rw [hc, ← hu]
      simp only [bv, List.getElem?_map, List.getElem?_take, if_pos hj]
      have hjz : j < zs.length := by omega
      rw [List.getElem?_eq_getElem hjz, List.getD_eq_getElem?_getD, List.getElem?_eq_getElem hjz]
      have := hr zs[j] (List.getElem_mem hjz)
      simp
      omega
    · intro y hy
      simp only [List.mem_map] at hy
      obtain ⟨n, hn, rfl⟩ := hy
      have := hr n (List.mem_of_mem_take hn)
      omega
set_option maxRecDepth 100000 in
theorem int_range {a : Int} (h : (Lit.int .i64 a).wf = true) : I64 a := by
  simp [Lit.wf] at h
  have e1 : IntKind.i64.min = -9223372036854775808 := by decide
  have e2 : IntKind.i64.max = 9223372036854775807 := by decide
  omega
end Go.Proofs.Ytkeiffccllfkpaa
