/- Vaults as arguments of a law. -/
import Derived.Test.YteakoleceoclkaaFr
import Derived.Test.YteakoleceoclkaaV1
namespace Go.Proofs.Yteakoleceoclkaa
open Go.ChangeShapes Go.WideShapes Go.ChangeAt Go.RowKit Go.Deep
set_option linter.unusedSimpArgs false
set_option linter.unusedVariables false
theorem cellsVk : Try.prog.cellsOf 65 = 33 := by kernel_rfl
theorem cellsVa : Try.prog.cellsOf 58 = 65 := by kernel_rfl
theorem cellsKs : Try.prog.cellsOf 56 = 1 := by kernel_rfl
def KOk (W : World) (x : VK) : Prop := Sl W 34 x.s x.l.length (tcells x.l) ∧ (∀ k, fpT x.s k → k < W.heap.size) ∧ ∀ n ∈ x.l, Nok n
set_option maxRecDepth 100000 in
theorem el_tree {H : Type} {enc : TypeId × Value → H} {W : World} {b0 : Nat} : ∀ fuel cs y, DataW.trod enc Try.prog W b0 (fun _ => true) true fuel 34 cs = some y → ∃ (ao : Option Addr) (cap : Nat) (l : List Nd), cs = [.slice ao l.length cap] ∧ Sl W 34 (.slice ao l.length cap) l.length (tcells l) ∧ (∀ k, fpT (.slice ao l.length cap) k → k < W.heap.size) ∧ ∀ n ∈ l, Nok n := by
 intro fuel cs y h
 obtain ⟨xs, k, _, _, hl, hxl, hf⟩ := DataW.trod_struct Try.underlying34 h
 rw [cellsTr] at hl
 match cs, hl with
 | [b], _ =>
   obtain ⟨y1, t1⟩ := fld_at hxl hf 0 _ rfl 32 rfl 1 cellsNs
   obtain ⟨v1, l1, e1, ⟨⟨ao, cap, rfl, h1, h2, h3⟩, h4⟩, w1⟩ := nest_slc Try.underlying32 cellsNd (by decide) ncells Nok el_nd t1
   have e1 : [b] = [.slice ao l1.length cap] := e1
   refine ⟨ao, cap, l1, e1, ?_, fun k hk => (h4 hk.2).2 k hk.1, w1⟩
   rcases Nat.eq_zero_or_pos l1.length with h0 | hp
   · obtain rfl := List.eq_nil_of_length_eq_zero h0
     exact ⟨rfl, ao, cap, rfl, h1, h2, h3, fun a ha => ⟨fun h => absurd h (by simp), fun j u hu => by simp [tcells] at hu⟩⟩
   · exact (h4 hp).1
set_option maxRecDepth 100000 in
theorem el_key {H : Type} {enc : TypeId × Value → H} {W : World} {b0 : Nat} : ∀ fuel cs y, DataW.trod enc Try.prog W b0 (fun _ => true) true fuel 65 cs = some y → ∃ x : VK, cs = kcells x ∧ (kcells x).length = 33 ∧ KOk W x := by
 intro fuel cs y h
 obtain ⟨xs, k, _, _, hl, hxl, hf⟩ := DataW.trod_struct Try.underlying65 h
 rw [cellsVk] at hl
 obtain ⟨y0, t0⟩ := fld_at hxl hf 0 _ rfl 29 rfl 32 cellsD
 obtain ⟨y1, t1⟩ := fld_at hxl hf 1 _ rfl 34 rfl 1 cellsTr
 obtain ⟨o, e0, a0, b0⟩ := el_dig _ _ _ t0
 obtain ⟨ao, cap, l, e1, w1, w2, w3⟩ := el_tree _ _ _ t1
 have e0 : cs.take 32 = bv o := e0
 have e1 : (cs.drop 32).take 1 = [.slice ao l.length cap] := e1
 rw [List.take_of_length_le (by rw [List.length_drop]; omega)] at e1
 refine ⟨⟨o, ⟨a0, b0⟩, ao, cap, l⟩, ?_, kcells_len _, w1, w2, w3⟩
 rw [← List.take_append_drop 32 cs, e0, e1]
 rfl
set_option maxRecDepth 100000 in
theorem open_vault {H : Type} {enc : TypeId × Value → H} {W : World} {r : Reach} {base b0 : Nat} {v : Value} {d : DataW H} {p : List MemPlace} (hv : Value.okWide Try.prog W r base 58 v) (h : DataW.Trod enc Try.prog W b0 (fun _ => true) true 58 v d p) : ∃ (sa po : List Nat) (s : Value) (ks : List VK), v = vval sa po s ∧ Dg sa ∧ Dg po ∧ SlB W 33 s ks.length (ks.flatMap kcells) ∧ ∀ x ∈ ks, KOk W x := by
 obtain ⟨cs, rfl, hcell⟩ := okWide_fields Try.underlying58 hv
 obtain ⟨fuel, hf⟩ := h
 have hf' : DataW.trod enc Try.prog W b0 (fun _ => true) true fuel 58 cs.toList = some (d, p) := hf
 obtain ⟨xs, k, _, _, hl, hxl, hf⟩ := DataW.trod_struct Try.underlying58 hf'
 rw [cellsVa] at hl
 obtain ⟨l⟩ := cs
 have hl : l.length = 65 := hl
 obtain ⟨y0, t0⟩ := fld_at hxl hf 0 _ rfl 29 rfl 32 cellsD
 obtain ⟨y1, t1⟩ := fld_at hxl hf 1 _ rfl 29 rfl 32 cellsD
 obtain ⟨y2, t2⟩ := fld_at hxl hf 2 _ rfl 56 rfl 1 cellsKs
 obtain ⟨x0, e0, a0, c0⟩ := el_dig _ _ _ t0
 obtain ⟨x1, e1, a1, c1⟩ := el_dig _ _ _ t1
 obtain ⟨s, ks, e2, nn, w2⟩ := nest_slc Try.underlying56 cellsVk (by decide) kcells (KOk W) el_key t2
 have e0 : l.take 32 = bv x0 := e0
 have e1 : (l.drop 32).take 32 = bv x1 := e1
 have e2 : (l.drop 64).take 1 = [s] := e2
 rw [List.take_of_length_le (by rw [List.length_drop]; omega)] at e2
 obtain ⟨u0, q0⟩ := hcell 64 s (by
   have h1 : (l.drop 64)[0]? = some s := by rw [e2]; rfl
   rw [List.getElem?_drop] at h1
   simpa using h1)
 have ht := nn.top (fun h => by rw [List.eq_nil_of_length_eq_zero h]; rfl) q0
 refine ⟨x0, x1, s, ks, ?_, ⟨a0, c0⟩, ⟨a1, c1⟩, ht, w2⟩
 have el : l = bv x0 ++ (bv x1 ++ [s]) := by
   rw [← List.take_append_drop 32 l, e0, ← List.take_append_drop 32 (l.drop 32), e1, List.drop_drop, e2]
 rw [el]
 unfold vval
 simp
end Go.Proofs.Yteakoleceoclkaa
