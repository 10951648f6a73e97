/- Arguments of the laws that are records, changes, bags: opened. -/
import Derived.Test.YtkeiffccllfkpaaN4
namespace Go.Proofs.Ytkeiffccllfkpaa
open Go.ChangeShapes Go.WideShapes Go.ChangeAt Go.RowKit Go.Deep

theorem okWide_fields {P : Program} {w : World} {r : Reach} {base : Nat} {t : TypeId} {v : Value} {fs : Array Field} (ht : P.underlying t = some (.struct fs)) (h : Value.okWide P w r base t v) :
    ∃ cs : Array Value, v = .agg cs ∧ ∀ (i : Nat) (c : Value), cs[i]? = some c → ∃ u, Cell.okWide P w r base u c := by
  simp only [Value.okWide, ht] at h
  obtain ⟨cs, h1, _, ts, _, _, h2⟩ := h
  exact ⟨cs, h1, fun i c hc => let ⟨u, _, hu⟩ := h2 i c hc; ⟨u, hu⟩⟩
theorem flat_one (l : List Int) : (l.flatMap fun n : Int => [Value.int .i64 n]) = l.map (Value.int .i64) := by
  induction l with
  | nil => rfl
  | cons a l ih => rw [List.flatMap_cons, ih]; rfl
theorem el_int {H : Type} {enc : TypeId × Value → H} {W : World} {b0 : Nat} : ∀ fuel cs y, DataW.trod enc Try.prog W b0 (fun _ => true) true fuel 3 cs = some y → ∃ n : Int, cs = [.int .i64 n] ∧ ([Value.int .i64 n] : List Value).length = 1 ∧ I64 n := by
  intro fuel cs y h
  obtain ⟨n, h1, _, h2⟩ := DataW.trod_int Try.underlying3 h
  exact ⟨n, h1, rfl, int_range h2⟩
theorem nest_row {H : Type} {enc : TypeId × Value → H} {W : World} {b0 fuel : Nat} {cs : List Value} {y : DataW H × List MemPlace} (h : DataW.trod enc Try.prog W b0 (fun _ => true) true fuel 60 cs = some y) :
    ∃ (v : Value) (l : List V), cs = [v] ∧ Nest W 3 v l.length (l.flatMap vcells) ∧ ∀ x ∈ l, x.inn := nest_slc Try.underlying60 cellsVal (by decide) vcells V.inn el_val h
theorem nest_ints {H : Type} {enc : TypeId × Value → H} {W : World} {b0 fuel : Nat} {cs : List Value} {y : DataW H × List MemPlace} (h : DataW.trod enc Try.prog W b0 (fun _ => true) true fuel 93 cs = some y) :
    ∃ (v : Value) (l : List Int), cs = [v] ∧ Nest W 1 v l.length (l.map (Value.int .i64)) ∧ ∀ x ∈ l, I64 x := by
  obtain ⟨v, l, h1, h2, h3⟩ := nest_slc Try.underlying93 cells3 (by decide) (fun n : Int => [Value.int .i64 n]) I64 el_int h
  rw [flat_one] at h2
  exact ⟨v, l, h1, h2, h3⟩
theorem Nest.row {W : World} {v : Value} {l : List V} (h : Nest W 3 v l.length (l.flatMap vcells)) : DRow W.heap.size W v l := by
  obtain ⟨⟨ao, cap, h1, h2, h3, _⟩, h4⟩ := h
  refine ⟨⟨ao, cap, h1, h2, h3⟩, fun hn => h4 ?_⟩
  cases l with
  | nil => exact absurd rfl hn
  | cons a l => simp
theorem cellsRec : Try.prog.cellsOf 95 = 3 := by kernel_rfl
set_option maxRecDepth 100000 in
theorem open_rec {H : Type} {enc : TypeId × Value → H} {W : World} {r : Reach} {base b0 : Nat} {v : Value} {d : DataW H} {p : List MemPlace} (hv : Value.okWide Try.prog W r base 95 v) (h : DataW.Trod enc Try.prog W b0 (fun _ => true) true 95 v d p) :
    ∃ (x : Rec) (r q : Value), v = .agg #[r, q, .int .i64 x.day] ∧ (Sl W 3 r x.row.length (x.row.flatMap vcells) ∧ Lo r W.heap.size) ∧ (Sl W 1 q x.seq.length (x.seq.map (Value.int .i64)) ∧ Lo q W.heap.size) ∧ (∀ n ∈ x.seq, I64 n) ∧ I64 x.day := by
  obtain ⟨cs, rfl, hcell⟩ := okWide_fields Try.underlying95 hv
  obtain ⟨fuel, hf⟩ := h
  have hf' : DataW.trod enc Try.prog W b0 (fun _ => true) true fuel 95 cs.toList = some (d, p) := hf
  obtain ⟨xs, k, _, _, hl, hxl, hf⟩ := DataW.trod_struct Try.underlying95 hf'
  rw [cellsRec] at hl
  obtain ⟨l⟩ := cs
  match l, hl with
  | [a, b, c], _ =>
    obtain ⟨y0, h0⟩ := fld_at hxl hf 0 _ rfl 60 rfl 1 cells60
    obtain ⟨y1, h1⟩ := fld_at hxl hf 1 _ rfl 93 rfl 1 cells93
    obtain ⟨y2, h2⟩ := fld_at hxl hf 2 _ rfl 3 rfl 1 cells3
    obtain ⟨v0, l0, e0, n0, _⟩ := nest_row h0
    obtain ⟨v1, l1, e1, n1, w1⟩ := nest_ints h1
    obtain ⟨n2, e2, _, w2⟩ := el_int _ _ _ h2
    simp at e0 e1 e2
    subst e0 e1 e2
    obtain ⟨u0, c0⟩ := hcell 0 a rfl
    obtain ⟨u1, c1⟩ := hcell 1 b rfl
    exact ⟨⟨l0, l1, n2⟩, a, b, rfl, n0.top (fun h => by rw [List.eq_nil_of_length_eq_zero h]; rfl) c0, n1.top (fun h => by rw [List.eq_nil_of_length_eq_zero h]; rfl) c1, w1, w2⟩
theorem cellsEn : Try.prog.cellsOf 78 = 2 := by kernel_rfl
set_option maxRecDepth 100000 in
theorem el_en {H : Type} {enc : TypeId × Value → H} {W : World} {b0 : Nat} : ∀ fuel cs y, DataW.trod enc Try.prog W b0 (fun _ => true) true fuel 78 cs = some y → ∃ p : Value × En, cs = ecells p ∧ (ecells p).length = 2 ∧ (DRow W.heap.size W p.1 p.2.row ∧ I64 p.2.count) := by
  intro fuel cs y h
  obtain ⟨xs, k, _, _, hl, hxl, hf⟩ := DataW.trod_struct Try.underlying78 h
  rw [cellsEn] at hl
  match cs, hl with
  | [a, b], _ =>
    obtain ⟨y0, h0⟩ := fld_at hxl hf 0 _ rfl 60 rfl 1 cells60
    obtain ⟨y1, h1⟩ := fld_at hxl hf 1 _ rfl 2 rfl 1 cells2
    obtain ⟨v0, l0, e0, n0, _⟩ := nest_row h0
    obtain ⟨n1, e1, _, r1⟩ := DataW.trod_int Try.underlying2 h1
    simp at e0 e1
    subst e0 e1
    exact ⟨(a, ⟨l0, n1⟩), rfl, rfl, n0.row, int_range r1⟩
set_option maxRecDepth 100000 in
theorem open_bag {H : Type} {enc : TypeId × Value → H} {W : World} {r : Reach} {base b0 : Nat} {v : Value} {d : DataW H} {p : List MemPlace} (hv : Value.okWide Try.prog W r base 76 v) (h : DataW.Trod enc Try.prog W b0 (fun _ => true) true 76 v d p) :
    ∃ ps : List (Value × En), Sl W 2 v ps.length (ps.flatMap ecells) ∧ Lo v W.heap.size ∧ ∀ p ∈ ps, (DRow W.heap.size W p.1 p.2.row ∧ I64 p.2.count) := open_slc Try.underlying76 cellsEn (by decide) ecells _ el_en hv h
theorem cellsCh : Try.prog.cellsOf 86 = 12 := by kernel_rfl
set_option maxRecDepth 100000 in
theorem open_ch {H : Type} {enc : TypeId × Value → H} {W : World} {r : Reach} {base b0 : Nat} {v : Value} {d : DataW H} {p : List MemPlace} (hv : Value.okWide Try.prog W r base 86 v) (h : DataW.Trod enc Try.prog W b0 (fun _ => true) true 86 v d p) :
    ∃ (x : Ch) (r : Value), v = valCh x r ∧ (Sl W 3 r x.row.length (x.row.flatMap vcells) ∧ Lo r W.heap.size) ∧ x.wf := by
  obtain ⟨cs, rfl, hcell⟩ := okWide_fields Try.underlying86 hv
  obtain ⟨fuel, hf⟩ := h
  have hf' : DataW.trod enc Try.prog W b0 (fun _ => true) true fuel 86 cs.toList = some (d, p) := hf
  obtain ⟨xs, k, _, _, hl, hxl, hf⟩ := DataW.trod_struct Try.underlying86 hf'
  rw [cellsCh] at hl
  obtain ⟨l⟩ := cs
  match l, hl with
  | [a, b, c, d, e, f1, f2, f3, g, h1, h2, h3], _ =>
    obtain ⟨y0, t0⟩ := fld_at hxl hf 0 _ rfl 3 rfl 1 cells3
    obtain ⟨y1, t1⟩ := fld_at hxl hf 1 _ rfl 3 rfl 1 cells3
    obtain ⟨y2, t2⟩ := fld_at hxl hf 2 _ rfl 3 rfl 1 cells3
    obtain ⟨y3, t3⟩ := fld_at hxl hf 3 _ rfl 3 rfl 1 cells3
    obtain ⟨y4, t4⟩ := fld_at hxl hf 4 _ rfl 60 rfl 1 cells60
    obtain ⟨y5, t5⟩ := fld_at hxl hf 5 _ rfl 67 rfl 3 cellsVal
    obtain ⟨y6, t6⟩ := fld_at hxl hf 6 _ rfl 3 rfl 1 cells3
    obtain ⟨y7, t7⟩ := fld_at hxl hf 7 _ rfl 67 rfl 3 cellsVal
    obtain ⟨n0, e0, _, w0⟩ := el_int _ _ _ t0
    obtain ⟨n1, e1, _, w1⟩ := el_int _ _ _ t1
    obtain ⟨n2, e2, _, w2⟩ := el_int _ _ _ t2
    obtain ⟨n3, e3, _, w3⟩ := el_int _ _ _ t3
    obtain ⟨v4, l4, e4, nn4, _⟩ := nest_row t4
    obtain ⟨v5, e5, _, _⟩ := el_val _ _ _ t5
    obtain ⟨n6, e6, _, w6⟩ := el_int _ _ _ t6
    obtain ⟨v7, e7, _, _⟩ := el_val _ _ _ t7
    simp [vcells] at e0 e1 e2 e3 e4 e5 e6 e7
    obtain ⟨rfl, rfl, rfl⟩ := e5
    obtain ⟨rfl, rfl, rfl⟩ := e7
    subst e0 e1 e2 e3 e4 e6
    obtain ⟨u0, c0⟩ := hcell 4 e rfl
    exact ⟨⟨n0, n1, n2, n3, l4, v5, n6, v7⟩, e, rfl, nn4.top (fun h => by rw [List.eq_nil_of_length_eq_zero h]; rfl) c0, w0, w1, w2, w3, w6⟩
end Go.Proofs.Ytkeiffccllfkpaa
