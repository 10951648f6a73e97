/- Arguments of the laws that are identifiers, requests, links, holds: opened. -/
import Derived.Test.YtkeiffccllfkpaaN7
import Derived.Test.YtkeiffccllfkpaaN9
namespace Go.Proofs.Ytkeiffccllfkpaa
open Go.ChangeShapes Go.WideShapes Go.ChangeAt Go.RowKit Go.Deep

theorem cells103 : Try.prog.cellsOf 103 = 4 := by kernel_rfl
theorem cells105 : Try.prog.cellsOf 105 = 8 := by kernel_rfl
theorem cells107 : Try.prog.cellsOf 107 = 10 := by kernel_rfl
theorem cells109 : Try.prog.cellsOf 109 = 9 := by kernel_rfl
set_option maxRecDepth 100000 in
theorem el_idf {H : Type} {enc : TypeId × Value → H} {W : World} {b0 : Nat} : ∀ fuel cs y, DataW.trod enc Try.prog W b0 (fun _ => true) true fuel 103 cs = some y → ∃ x : Idf, cs = idfcells x := by
  intro fuel cs y h
  obtain ⟨xs, k, _, _, hl, hxl, hf⟩ := DataW.trod_struct Try.underlying103 h
  rw [cells103] at hl
  match cs, hl with
  | [a, b, c, d], _ =>
    obtain ⟨y0, t0⟩ := fld_at hxl hf 0 _ rfl 9 rfl 1 cells9
    obtain ⟨y1, t1⟩ := fld_at hxl hf 1 _ rfl 67 rfl 3 cellsVal
    obtain ⟨s0, e0, _, _⟩ := DataW.trod_string Try.underlying9 t0
    obtain ⟨v1, e1, _, _⟩ := el_val _ _ _ t1
    simp [vcells] at e0 e1
    obtain ⟨rfl, rfl, rfl⟩ := e1
    subst e0
    exact ⟨⟨s0, v1⟩, rfl⟩
set_option maxRecDepth 100000 in
theorem open_req {H : Type} {enc : TypeId × Value → H} {W : World} {r : Reach} {base b0 : Nat} {v : Value} {d : DataW H} {p : List MemPlace} (hv : Value.okWide Try.prog W r base 105 v) (h : DataW.Trod enc Try.prog W b0 (fun _ => true) true 105 v d p) :
    ∃ x : Req, v = valReq x ∧ x.wf := by
  obtain ⟨cs, rfl, _⟩ := okWide_fields Try.underlying105 hv
  obtain ⟨fuel, hf⟩ := h
  have hf' : DataW.trod enc Try.prog W b0 (fun _ => true) true fuel 105 cs.toList = some (d, p) := hf
  obtain ⟨xs, k, _, _, hl, hxl, hf⟩ := DataW.trod_struct Try.underlying105 hf'
  rw [cells105] at hl
  obtain ⟨l⟩ := cs
  match l, hl with
  | [a0, a1, a2, a3, a4, a5, a6, a7], _ =>
    obtain ⟨y0, t0⟩ := fld_at hxl hf 0 _ rfl 3 rfl 1 cells3
    obtain ⟨n0, e0, _, w0⟩ := el_int _ _ _ t0
    obtain ⟨y1, t1⟩ := fld_at hxl hf 1 _ rfl 103 rfl 4 cells103
    obtain ⟨n1, e1⟩ := el_idf _ _ _ t1
    obtain ⟨y2, t2⟩ := fld_at hxl hf 2 _ rfl 3 rfl 1 cells3
    obtain ⟨n2, e2, _, w2⟩ := el_int _ _ _ t2
    obtain ⟨y3, t3⟩ := fld_at hxl hf 3 _ rfl 3 rfl 1 cells3
    obtain ⟨n3, e3, _, w3⟩ := el_int _ _ _ t3
    obtain ⟨y4, t4⟩ := fld_at hxl hf 4 _ rfl 3 rfl 1 cells3
    obtain ⟨n4, e4, _, w4⟩ := el_int _ _ _ t4
    simp [idfcells] at e0 e1 e2 e3 e4
    subst e0
    obtain ⟨rfl, rfl, rfl, rfl⟩ := e1
    subst e2
    subst e3
    subst e4
    exact ⟨⟨n0, n1, n2, n3, n4⟩, rfl, w0, w2, w3, w4⟩
set_option maxRecDepth 100000 in
theorem open_lnk {H : Type} {enc : TypeId × Value → H} {W : World} {r : Reach} {base b0 : Nat} {v : Value} {d : DataW H} {p : List MemPlace} (hv : Value.okWide Try.prog W r base 107 v) (h : DataW.Trod enc Try.prog W b0 (fun _ => true) true 107 v d p) :
    ∃ x : Lnk, v = valLnk x ∧ I64 x.seq := by
  obtain ⟨cs, rfl, _⟩ := okWide_fields Try.underlying107 hv
  obtain ⟨fuel, hf⟩ := h
  have hf' : DataW.trod enc Try.prog W b0 (fun _ => true) true fuel 107 cs.toList = some (d, p) := hf
  obtain ⟨xs, k, _, _, hl, hxl, hf⟩ := DataW.trod_struct Try.underlying107 hf'
  rw [cells107] at hl
  obtain ⟨l⟩ := cs
  match l, hl with
  | [a0, a1, a2, a3, a4, a5, a6, a7, a8, a9], _ =>
    obtain ⟨y0, t0⟩ := fld_at hxl hf 0 _ rfl 103 rfl 4 cells103
    obtain ⟨n0, e0⟩ := el_idf _ _ _ t0
    obtain ⟨y1, t1⟩ := fld_at hxl hf 1 _ rfl 103 rfl 4 cells103
    obtain ⟨n1, e1⟩ := el_idf _ _ _ t1
    obtain ⟨y2, t2⟩ := fld_at hxl hf 2 _ rfl 3 rfl 1 cells3
    obtain ⟨n2, e2, _, w2⟩ := el_int _ _ _ t2
    obtain ⟨y3, t3⟩ := fld_at hxl hf 3 _ rfl 4 rfl 1 cells4
    obtain ⟨n3, e3, _⟩ := DataW.trod_bool Try.underlying4 t3
    simp [idfcells] at e0 e1 e2 e3
    obtain ⟨rfl, rfl, rfl, rfl⟩ := e0
    obtain ⟨rfl, rfl, rfl, rfl⟩ := e1
    subst e2
    subst e3
    exact ⟨⟨n0, n1, n2, n3⟩, rfl, w2⟩
set_option maxRecDepth 100000 in
theorem open_hld {H : Type} {enc : TypeId × Value → H} {W : World} {r : Reach} {base b0 : Nat} {v : Value} {d : DataW H} {p : List MemPlace} (hv : Value.okWide Try.prog W r base 109 v) (h : DataW.Trod enc Try.prog W b0 (fun _ => true) true 109 v d p) :
    ∃ x : Hld, v = valHld x ∧ x.wf := by
  obtain ⟨cs, rfl, _⟩ := okWide_fields Try.underlying109 hv
  obtain ⟨fuel, hf⟩ := h
  have hf' : DataW.trod enc Try.prog W b0 (fun _ => true) true fuel 109 cs.toList = some (d, p) := hf
  obtain ⟨xs, k, _, _, hl, hxl, hf⟩ := DataW.trod_struct Try.underlying109 hf'
  rw [cells109] at hl
  obtain ⟨l⟩ := cs
  match l, hl with
  | [a0, a1, a2, a3, a4, a5, a6, a7, a8], _ =>
    obtain ⟨y0, t0⟩ := fld_at hxl hf 0 _ rfl 3 rfl 1 cells3
    obtain ⟨n0, e0, _, w0⟩ := el_int _ _ _ t0
    obtain ⟨y1, t1⟩ := fld_at hxl hf 1 _ rfl 3 rfl 1 cells3
    obtain ⟨n1, e1, _, w1⟩ := el_int _ _ _ t1
    obtain ⟨y2, t2⟩ := fld_at hxl hf 2 _ rfl 103 rfl 4 cells103
    obtain ⟨n2, e2⟩ := el_idf _ _ _ t2
    obtain ⟨y3, t3⟩ := fld_at hxl hf 3 _ rfl 3 rfl 1 cells3
    obtain ⟨n3, e3, _, w3⟩ := el_int _ _ _ t3
    obtain ⟨y4, t4⟩ := fld_at hxl hf 4 _ rfl 3 rfl 1 cells3
    obtain ⟨n4, e4, _, w4⟩ := el_int _ _ _ t4
    obtain ⟨y5, t5⟩ := fld_at hxl hf 5 _ rfl 3 rfl 1 cells3
    obtain ⟨n5, e5, _, w5⟩ := el_int _ _ _ t5
    simp [idfcells] at e0 e1 e2 e3 e4 e5
    subst e0
    subst e1
    obtain ⟨rfl, rfl, rfl, rfl⟩ := e2
    subst e3
    subst e4
    subst e5
    exact ⟨⟨n0, n1, n2, n3, n4, n5⟩, rfl, w0, w1, w3, w4, w5⟩
end Go.Proofs.Ytkeiffccllfkpaa
