/- Identifiers as arguments of a law. -/
import Derived.Test.YteakoleceoclkaaFr
import Derived.Test.YteakoleceoclkaaKA
namespace Go.Proofs.Yteakoleceoclkaa
open Go.ChangeShapes Go.WideShapes Go.ChangeAt Go.RowKit Go.Deep
set_option linter.unusedSimpArgs false
set_option linter.unusedVariables false
theorem cellsVal : Try.prog.cellsOf 71 = 3 := by kernel_rfl
theorem cellsIdf : Try.prog.cellsOf 73 = 4 := by kernel_rfl
theorem cellsStr : Try.prog.cellsOf 9 = 1 := by kernel_rfl
def vcells (x : V) : List Value := [.int .i64 x.kind, .int .i64 x.int, .string x.text]
set_option maxRecDepth 100000 in
theorem el_val {H : Type} {enc : TypeId × Value → H} {W : World} {b0 : Nat} : ∀ fuel cs y, DataW.trod enc Try.prog W b0 (fun _ => true) true fuel 71 cs = some y → ∃ x : V, cs = vcells x := by
 intro fuel cs y h
 obtain ⟨xs, k, _, _, hl, hxl, hf⟩ := DataW.trod_struct Try.underlying71 h
 rw [cellsVal] at hl
 match cs, hl with
 | [a, b, c], _ =>
   obtain ⟨y0, h0⟩ := fld_at hxl hf 0 _ rfl 3 rfl 1 cellsI
   obtain ⟨y1, h1⟩ := fld_at hxl hf 1 _ rfl 2 rfl 1 cellsI6
   obtain ⟨y2, h2⟩ := fld_at hxl hf 2 _ rfl 9 rfl 1 cellsStr
   obtain ⟨n0, e0, _, r0⟩ := DataW.trod_int Try.underlying3 h0
   obtain ⟨n1, e1, _, r1⟩ := DataW.trod_int Try.underlying2 h1
   obtain ⟨s2, e2, _, r2⟩ := DataW.trod_string Try.underlying9 h2
   simp at e0 e1 e2
   subst e0 e1 e2
   exact ⟨⟨n0, n1, s2⟩, rfl⟩
set_option maxRecDepth 100000 in
theorem open_idf {H : Type} {enc : TypeId × Value → H} {W : World} {r : Reach} {base b0 : Nat} {v : Value} {d : DataW H} {p : List MemPlace} (hv : Value.okWide Try.prog W r base 73 v) (h : DataW.Trod enc Try.prog W b0 (fun _ => true) true 73 v d p) : ∃ x : Idf, v = valIdf x ∧ True := by
 obtain ⟨cs, rfl, hcell⟩ := okWide_fields Try.underlying73 hv
 obtain ⟨fuel, hf⟩ := h
 have hf' : DataW.trod enc Try.prog W b0 (fun _ => true) true fuel 73 cs.toList = some (d, p) := hf
 obtain ⟨xs, k, _, _, hl, hxl, hf⟩ := DataW.trod_struct Try.underlying73 hf'
 rw [cellsIdf] at hl
 obtain ⟨l⟩ := cs
 match l, hl with
 | [a, b, c, e], _ =>
   obtain ⟨y0, t0⟩ := fld_at hxl hf 0 _ rfl 9 rfl 1 cellsStr
   obtain ⟨y1, t1⟩ := fld_at hxl hf 1 _ rfl 71 rfl 3 cellsVal
   obtain ⟨s0, e0, _, _⟩ := DataW.trod_string Try.underlying9 t0
   obtain ⟨v1, e1⟩ := el_val _ _ _ t1
   simp [vcells] at e0 e1
   obtain ⟨rfl, rfl, rfl⟩ := e1
   subst e0
   exact ⟨⟨s0, v1⟩, rfl, trivial⟩
end Go.Proofs.Yteakoleceoclkaa
