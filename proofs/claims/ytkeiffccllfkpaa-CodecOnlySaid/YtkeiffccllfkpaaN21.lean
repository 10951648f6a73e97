/- An argument of the laws that is a ledger entry: opened. -/
import Derived.Test.YtkeiffccllfkpaaN16
import Derived.Test.YtkeiffccllfkpaaN17
namespace Go.Proofs.Ytkeiffccllfkpaa
open Go.ChangeShapes Go.WideShapes Go.ChangeAt Go.RowKit Go.Deep

theorem cells111 : Try.prog.cellsOf 111 = 65 := by kernel_rfl
theorem cells42 : Try.prog.cellsOf 42 = 1 := by kernel_rfl
theorem cells43 : Try.prog.cellsOf 43 = 1 := by kernel_rfl
theorem cells45' : Try.prog.cellsOf 45 = 32 := by kernel_rfl
theorem cells169' : Try.prog.cellsOf 169 = 3 := by kernel_rfl
theorem cells171' : Try.prog.cellsOf 171 = 2 := by kernel_rfl
theorem cut1 {α : Type} (l : List α) (a n m : Nat) (h : a + n = m) : l.drop a = (l.drop a).take n ++ l.drop m := by
  subst h
  rw [← List.drop_drop, List.take_append_drop]
set_option maxRecDepth 100000 in
theorem el_req {H : Type} {enc : TypeId × Value → H} {W : World} {b0 : Nat} : ∀ fuel cs y, DataW.trod enc Try.prog W b0 (fun _ => true) true fuel 105 cs = some y → ∃ x : Req, cs = reqcells x ∧ x.wf := by
  intro fuel cs y h
  obtain ⟨xs, k, _, _, hl, hxl, hf⟩ := DataW.trod_struct Try.underlying105 h
  rw [cells105] at hl
  match cs, hl with
  | [a0, a1, a2, a3, a4, a5, a6, a7], _ =>
    obtain ⟨y0, t0⟩ := fld_at hxl hf 0 _ rfl 3 rfl 1 cells3
    obtain ⟨y1, t1⟩ := fld_at hxl hf 1 _ rfl 103 rfl 4 cells103
    obtain ⟨y2, t2⟩ := fld_at hxl hf 2 _ rfl 3 rfl 1 cells3
    obtain ⟨y3, t3⟩ := fld_at hxl hf 3 _ rfl 3 rfl 1 cells3
    obtain ⟨y4, t4⟩ := fld_at hxl hf 4 _ rfl 3 rfl 1 cells3
    obtain ⟨n0, e0, _, w0⟩ := el_int _ _ _ t0
    obtain ⟨n1, e1⟩ := el_idf _ _ _ t1
    obtain ⟨n2, e2, _, w2⟩ := el_int _ _ _ t2
    obtain ⟨n3, e3, _, w3⟩ := el_int _ _ _ t3
    obtain ⟨n4, e4, _, w4⟩ := el_int _ _ _ t4
    simp [idfcells] at e0 e1 e2 e3 e4
    obtain ⟨rfl, rfl, rfl, rfl⟩ := e1
    subst e0 e2 e3 e4
    exact ⟨⟨n0, n1, n2, n3, n4⟩, rfl, w0, w2, w3, w4⟩
set_option maxRecDepth 100000 in
theorem el_lnk {H : Type} {enc : TypeId × Value → H} {W : World} {b0 : Nat} : ∀ fuel cs y, DataW.trod enc Try.prog W b0 (fun _ => true) true fuel 107 cs = some y → ∃ x : Lnk, cs = lnkcells x ∧ I64 x.seq := by
  intro fuel cs y h
  obtain ⟨xs, k, _, _, hl, hxl, hf⟩ := DataW.trod_struct Try.underlying107 h
  rw [cells107] at hl
  match cs, hl with
  | [a0, a1, a2, a3, a4, a5, a6, a7, a8, a9], _ =>
    obtain ⟨y0, t0⟩ := fld_at hxl hf 0 _ rfl 103 rfl 4 cells103
    obtain ⟨y1, t1⟩ := fld_at hxl hf 1 _ rfl 103 rfl 4 cells103
    obtain ⟨y2, t2⟩ := fld_at hxl hf 2 _ rfl 3 rfl 1 cells3
    obtain ⟨y3, t3⟩ := fld_at hxl hf 3 _ rfl 4 rfl 1 cells4
    obtain ⟨n0, e0⟩ := el_idf _ _ _ t0
    obtain ⟨n1, e1⟩ := el_idf _ _ _ t1
    obtain ⟨n2, e2, _, w2⟩ := el_int _ _ _ t2
    obtain ⟨n3, e3, _⟩ := DataW.trod_bool Try.underlying4 t3
    simp [idfcells] at e0 e1 e2 e3
    obtain ⟨rfl, rfl, rfl, rfl⟩ := e0
    obtain ⟨rfl, rfl, rfl, rfl⟩ := e1
    subst e2 e3
    exact ⟨⟨n0, n1, n2, n3⟩, rfl, w2⟩
set_option maxRecDepth 100000 in
theorem el_hld {H : Type} {enc : TypeId × Value → H} {W : World} {b0 : Nat} : ∀ fuel cs y, DataW.trod enc Try.prog W b0 (fun _ => true) true fuel 109 cs = some y → ∃ x : Hld, cs = hldcells x ∧ x.wf := by
  intro fuel cs y h
  obtain ⟨xs, k, _, _, hl, hxl, hf⟩ := DataW.trod_struct Try.underlying109 h
  rw [cells109] at hl
  match cs, hl with
  | [a0, a1, a2, a3, a4, a5, a6, a7, a8], _ =>
    obtain ⟨y0, t0⟩ := fld_at hxl hf 0 _ rfl 3 rfl 1 cells3
    obtain ⟨y1, t1⟩ := fld_at hxl hf 1 _ rfl 3 rfl 1 cells3
    obtain ⟨y2, t2⟩ := fld_at hxl hf 2 _ rfl 103 rfl 4 cells103
    obtain ⟨y3, t3⟩ := fld_at hxl hf 3 _ rfl 3 rfl 1 cells3
    obtain ⟨y4, t4⟩ := fld_at hxl hf 4 _ rfl 3 rfl 1 cells3
    obtain ⟨y5, t5⟩ := fld_at hxl hf 5 _ rfl 3 rfl 1 cells3
    obtain ⟨n0, e0, _, w0⟩ := el_int _ _ _ t0
    obtain ⟨n1, e1, _, w1⟩ := el_int _ _ _ t1
    obtain ⟨n2, e2⟩ := el_idf _ _ _ t2
    obtain ⟨n3, e3, _, w3⟩ := el_int _ _ _ t3
    obtain ⟨n4, e4, _, w4⟩ := el_int _ _ _ t4
    obtain ⟨n5, e5, _, w5⟩ := el_int _ _ _ t5
    simp [idfcells] at e0 e1 e2 e3 e4 e5
    obtain ⟨rfl, rfl, rfl, rfl⟩ := e2
    subst e0 e1 e3 e4 e5
    exact ⟨⟨n0, n1, n2, n3, n4, n5⟩, rfl, w0, w1, w3, w4, w5⟩
set_option maxRecDepth 100000 in
theorem open_le {H : Type} {enc : TypeId × Value → H} {W : World} {r : Reach} {base b0 : Nat} {v : Value} {d : DataW H} {p : List MemPlace} (hv : Value.okWide Try.prog W r base 111 v) (h : DataW.Trod enc Try.prog W b0 (fun _ => true) true 111 v d p) :
    ∃ (x : LE) (a b : Value), v = leval x a b ∧ (Sl W 3 a x.vers.length (x.vers.flatMap vercells) ∧ Lo a W.heap.size) ∧ (Sl W 2 b x.srcs.length (x.srcs.flatMap srccells) ∧ Lo b W.heap.size) ∧ x.wf := by
  obtain ⟨cs, rfl, hcell⟩ := okWide_fields Try.underlying111 hv
  obtain ⟨fuel, hf⟩ := h
  have hf' : DataW.trod enc Try.prog W b0 (fun _ => true) true fuel 111 cs.toList = some (d, p) := hf
  obtain ⟨xs, k, _, _, hl, hxl, hf⟩ := DataW.trod_struct Try.underlying111 hf'
  rw [cells111] at hl
  obtain ⟨l⟩ := cs
  obtain ⟨y0, t0⟩ := fld_at hxl hf 0 _ rfl 3 rfl 1 cells3
  obtain ⟨y1, t1⟩ := fld_at hxl hf 1 _ rfl 3 rfl 1 cells3
  obtain ⟨y2, t2⟩ := fld_at hxl hf 2 _ rfl 3 rfl 1 cells3
  obtain ⟨y3, t3⟩ := fld_at hxl hf 3 _ rfl 3 rfl 1 cells3
  obtain ⟨y4, t4⟩ := fld_at hxl hf 4 _ rfl 105 rfl 8 cells105
  obtain ⟨y5, t5⟩ := fld_at hxl hf 5 _ rfl 107 rfl 10 cells107
  obtain ⟨y6, t6⟩ := fld_at hxl hf 6 _ rfl 109 rfl 9 cells109
  obtain ⟨y7, t7⟩ := fld_at hxl hf 7 _ rfl 42 rfl 1 cells42
  obtain ⟨y8, t8⟩ := fld_at hxl hf 8 _ rfl 43 rfl 1 cells43
  obtain ⟨y9, t9⟩ := fld_at hxl hf 9 _ rfl 45 rfl 32 cells45'
  obtain ⟨n0, e0, _, w0⟩ := el_int _ _ _ t0
  obtain ⟨n1, e1, _, w1⟩ := el_int _ _ _ t1
  obtain ⟨n2, e2, _, w2⟩ := el_int _ _ _ t2
  obtain ⟨n3, e3, _, w3⟩ := el_int _ _ _ t3
  obtain ⟨n4, e4, w4⟩ := el_req _ _ _ t4
  obtain ⟨n5, e5, w5⟩ := el_lnk _ _ _ t5
  obtain ⟨n6, e6, w6⟩ := el_hld _ _ _ t6
  obtain ⟨a, l7, e7, nn7, w7⟩ := nest_slc Try.underlying42 cells169' (by decide) vercells Ver.wf el_ver t7
  obtain ⟨b, l8, e8, nn8, w8⟩ := nest_slc Try.underlying43 cells171' (by decide) srccells Src.wf el_src t8
  obtain ⟨n9, e9, r9, q9⟩ := el_dig _ _ _ t9
  have f0 : (l.drop 0).take 1 = [.int .i64 n0] := e0
  have f1 : (l.drop 1).take 1 = [.int .i64 n1] := e1
  have f2 : (l.drop 2).take 1 = [.int .i64 n2] := e2
  have f3 : (l.drop 3).take 1 = [.int .i64 n3] := e3
  have f4 : (l.drop 4).take 8 = reqcells n4 := e4
  have f5 : (l.drop 12).take 10 = lnkcells n5 := e5
  have f6 : (l.drop 22).take 9 = hldcells n6 := e6
  have f7 : (l.drop 31).take 1 = [a] := e7
  have f8 : (l.drop 32).take 1 = [b] := e8
  have f9 : (l.drop 33).take 32 = bv n9 := e9
  have hl' : l.length = 65 := hl
  have hE : l.drop 65 = [] := List.drop_eq_nil_iff.2 (by omega)
  have heq : l = lecells ⟨n0, n1, n2, n3, n4, n5, n6, l7, l8, n9⟩ a b := by
    have h0 : l = l.drop 0 := rfl
    rw [h0, cut1 l 0 1 1 rfl, cut1 l 1 1 2 rfl, cut1 l 2 1 3 rfl, cut1 l 3 1 4 rfl, cut1 l 4 8 12 rfl, cut1 l 12 10 22 rfl, cut1 l 22 9 31 rfl, cut1 l 31 1 32 rfl, cut1 l 32 1 33 rfl, cut1 l 33 32 65 rfl, f0, f1, f2, f3, f4, f5, f6, f7, f8, f9, hE]
    simp [lecells]
  have g7 : l.toArray[31]? = some a := by
    have : (l.drop 31)[0]? = some a := by
      have := congrArg (fun z => z[0]?) f7
      rw [List.getElem?_take] at this
      simpa using this
    simpa using this
  have g8 : l.toArray[32]? = some b := by
    have : (l.drop 32)[0]? = some b := by
      have := congrArg (fun z => z[0]?) f8
      rw [List.getElem?_take] at this
      simpa using this
    simpa using this
  obtain ⟨u0, c0⟩ := hcell 31 a g7
  obtain ⟨u1, c1⟩ := hcell 32 b g8
  exact ⟨⟨n0, n1, n2, n3, n4, n5, n6, l7, l8, n9⟩, a, b, by rw [heq]; rfl, nn7.top (fun h => by rw [List.eq_nil_of_length_eq_zero h]; rfl) c0, nn8.top (fun h => by rw [List.eq_nil_of_length_eq_zero h]; rfl) c1, ⟨w0, w1, w2, w3, w4, w5, w6, w7, w8, ⟨r9, q9⟩⟩⟩
end Go.Proofs.Ytkeiffccllfkpaa
