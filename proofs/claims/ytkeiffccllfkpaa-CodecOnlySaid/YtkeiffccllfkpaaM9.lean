/- Arguments opened; digests compared. (merged by merge.py) -/
import Derived.Test.YtkeiffccllfkpaaM3
import Derived.Test.YtkeiffccllfkpaaM6
import Derived.Deep.Slices
import Derived.ChangeKeysEq
namespace Go.Proofs.Ytkeiffccllfkpaa

/-! ## Open -/
section
open Go.ChangeShapes Go.WideShapes Go.ChangeAt Go.RowKit Go.Deep

theorem list_of {α : Type} (p : Nat → α → Prop) : ∀ n, (∀ i, i < n → ∃ x, p i x) → ∃ l : List α, l.length = n ∧ ∀ i (h : i < l.length), p i l[i]
  | 0, _ => ⟨[], rfl, fun i h => by simp at h⟩
  | n + 1, h => by
    obtain ⟨l, hl, hp⟩ := list_of p n fun i hi => h i (by omega)
    obtain ⟨x, hx⟩ := h n (by omega)
    refine ⟨l ++ [x], by simp [hl], fun i hi => ?_⟩
    by_cases hin : i < l.length
    · rw [List.getElem_append_left hin]; exact hp i hin
    · have : i = l.length := by simp at hi; omega
      subst this
      rw [List.getElem_append_right (Nat.le_refl _)]
      simpa [hl] using hx
theorem flat_size {α β : Type} {f : α → List β} {n : Nat} : ∀ (L : List α), (∀ y ∈ L, (f y).length = n) → (L.flatMap f).length = L.length * n
  | [], _ => by simp
  | y :: l, h => by
    rw [List.flatMap_cons, List.length_append, h y List.mem_cons_self, flat_size l (fun z hz => h z (List.mem_cons_of_mem _ hz)), List.length_cons, Nat.add_mul]
    omega
/-- a slice whose elements are read by f, each with Q -/
theorem open_slc {P : Program} {H α : Type} {enc : TypeId × Value → H} {W : World} {r : Reach} {base b0 : Nat} {t e : TypeId} {v : Value} {d : DataW H} {p : List MemPlace} {n : Nat} (ht : P.underlying t = some (.slice e)) (hc : P.cellsOf e = n) (hn : 0 < n) (f : α → List Value) (Q : α → Prop)
    (hel : ∀ fuel cs y, DataW.trod enc P W b0 (fun _ => true) true fuel e cs = some y → ∃ x, cs = f x ∧ (f x).length = n ∧ Q x)
    (hv : Value.okWide P W r base t v) (h : DataW.Trod enc P W b0 (fun _ => true) true t v d p) :
    ∃ l : List α, Sl W n v l.length (l.flatMap f) ∧ Lo v W.heap.size ∧ ∀ x ∈ l, Q x := by
  obtain ⟨a, len, cap, rfl⟩ := okWide_slice ht hv
  obtain ⟨l1, l2, l3, l4, l5⟩ := slice_lo ht hv
  obtain ⟨fuel, hf⟩ := h
  rcases open_slice ht hf with ⟨hcs, _⟩ | ⟨x, l, c, m, k, D, Pl, hcs, _, hl, hm, hmm, _, hx⟩
  · simp [Value.cells] at hcs
    obtain ⟨rfl, rfl, rfl⟩ := hcs
    exact ⟨[], Sl.nil _ _, l1, by simp⟩
  · simp [Value.cells] at hcs
    obtain ⟨rfl, rfl, rfl⟩ := hcs
    have hs := l2 x rfl
    obtain ⟨b, off, spot⟩ := x
    simp only at hs
    subst hs
    rw [if_pos rfl] at hmm
    subst hmm
    rw [hc] at hx
    obtain ⟨L, hL, hp⟩ := list_of (fun i (y : α) => (∀ j u, (f y)[j]? = some u → W.cell? ⟨b, off + (i * n + j), none⟩ = some u) ∧ (f y).length = n ∧ Q y) len fun i hi => by
      obtain ⟨cs, h1, h2⟩ := hx i (by omega)
      obtain ⟨y, rfl, hy, hq⟩ := hel _ _ _ h2
      refine ⟨y, fun j u hu => ?_, hy, hq⟩
      obtain ⟨_, hlen, hcell⟩ := World.cells?_some h1
      have hj : j < n := by have := (List.getElem?_eq_some_iff.1 hu).1; omega
      have := hcell j hj
      rw [add_add, Addr.add_lit] at this
      rw [this]
      exact hu
    subst hL
    have hfl : ∀ y ∈ L, (f y).length = n := fun y hy => by
      obtain ⟨i, hi, rfl⟩ := List.getElem_of_mem hy
      exact (hp i hi).2.1
    refine ⟨L, ⟨?_, some ⟨b, off, none⟩, _, rfl, hl, hm, fun h => (by cases h), fun ad had => ?_⟩, l1, fun y hy => ?_⟩
    · exact flat_size L hfl
    · obtain rfl := Option.some.inj had
      refine ⟨rfl, fun j u hu => ?_⟩
      have hjl := (List.getElem?_eq_some_iff.1 hu).1
      have htot := flat_size L hfl
      have hk : j / n < L.length := (Nat.div_lt_iff_lt_mul hn).2 (by omega)
      have hjm : j % n < n := Nat.mod_lt _ hn
      have hje : j / n * n + j % n = j := by rw [Nat.mul_comm]; exact Nat.div_add_mod j n
      have h2 := flat_get f n L hfl (j / n) hk (j % n) hjm
      rw [hje, hu] at h2
      have h3 := (hp (j / n) hk).1 (j % n) u h2.symm
      rw [hje] at h3
      exact h3
    · obtain ⟨i, hi, rfl⟩ := List.getElem_of_mem hy
      exact (hp i hi).2.2
/-- one field's cells are read -/
theorem fld {P : Program} {H : Type} {enc : TypeId × Value → H} {W : World} {b0 k : Nat} {fs : Array Field} {cs : List Value} {xs : List (DataW H × List MemPlace)} (hxl : xs.length = fs.size)
    (hf : ∀ (i : Nat) (f : Field), fs[i]? = some f → DataW.trod enc P W b0 (fun _ => true) true k f.type ((cs.drop f.offset).take (P.cellsOf f.type)) = xs[i]?) (i : Nat) (f : Field) (hi : fs[i]? = some f) (c : Nat) (hc : P.cellsOf f.type = c) :
    ∃ y, DataW.trod enc P W b0 (fun _ => true) true k f.type ((cs.drop f.offset).take c) = some y := by
  have h := hf i f hi
  rw [hc] at h
  have hl : i < xs.length := by rw [hxl]; exact (Array.getElem?_eq_some_iff.1 hi).1
  exact ⟨xs[i], by rw [h, List.getElem?_eq_getElem hl]⟩
theorem cells3 : Try.prog.cellsOf 3 = 1 := by kernel_rfl
/-- an int field -/
theorem fld_int {H : Type} {enc : TypeId × Value → H} {W : World} {b0 k : Nat} {fs : Array Field} {cs : List Value} {xs : List (DataW H × List MemPlace)} (hxl : xs.length = fs.size)
    (hf : ∀ (i : Nat) (f : Field), fs[i]? = some f → DataW.trod enc Try.prog W b0 (fun _ => true) true k f.type ((cs.drop f.offset).take (Try.prog.cellsOf f.type)) = xs[i]?) (i : Nat) (f : Field) (hi : fs[i]? = some f) (ht : f.type = 3) :
    ∃ n, (cs.drop f.offset).take 1 = [.int .i64 n] ∧ I64 n := by
  obtain ⟨y, hy⟩ := fld hxl hf i f hi 1 (by rw [ht]; exact cells3)
  rw [ht] at hy
  obtain ⟨n, h1, _, h2⟩ := DataW.trod_int Try.underlying3 hy
  exact ⟨n, h1, int_range h2⟩
set_option maxRecDepth 100000 in
theorem el_ver {H : Type} {enc : TypeId × Value → H} {W : World} {b0 : Nat} : ∀ fuel cs y, DataW.trod enc Try.prog W b0 (fun _ => true) true fuel 169 cs = some y → ∃ x : Ver, cs = vercells x ∧ (vercells x).length = 3 ∧ x.wf := by
  intro fuel cs y h
  obtain ⟨xs, k, _, _, hl, hxl, hf⟩ := DataW.trod_struct Try.underlying169 h
  have hc : Try.prog.cellsOf 169 = 3 := by kernel_rfl
  rw [hc] at hl
  match cs, hl with
  | [a, b, c], _ =>
    obtain ⟨n0, h0, r0⟩ := fld_int hxl hf 0 _ rfl rfl
    obtain ⟨n1, h1, r1⟩ := fld_int hxl hf 1 _ rfl rfl
    obtain ⟨n2, h2, r2⟩ := fld_int hxl hf 2 _ rfl rfl
    simp at h0 h1 h2
    subst h0 h1 h2
    exact ⟨⟨n0, n1, n2⟩, rfl, rfl, r0, r1, r2⟩
set_option maxRecDepth 100000 in
theorem el_src {H : Type} {enc : TypeId × Value → H} {W : World} {b0 : Nat} : ∀ fuel cs y, DataW.trod enc Try.prog W b0 (fun _ => true) true fuel 171 cs = some y → ∃ x : Src, cs = srccells x ∧ (srccells x).length = 2 ∧ x.wf := by
  intro fuel cs y h
  obtain ⟨xs, k, _, _, hl, hxl, hf⟩ := DataW.trod_struct Try.underlying171 h
  have hc : Try.prog.cellsOf 171 = 2 := by kernel_rfl
  rw [hc] at hl
  match cs, hl with
  | [a, b], _ =>
    obtain ⟨n0, h0, r0⟩ := fld_int hxl hf 0 _ rfl rfl
    obtain ⟨n1, h1, r1⟩ := fld_int hxl hf 1 _ rfl rfl
    simp at h0 h1
    subst h0 h1
    exact ⟨⟨n0, n1⟩, rfl, rfl, r0, r1⟩
theorem cells169 : Try.prog.cellsOf 169 = 3 := by kernel_rfl
theorem cells171 : Try.prog.cellsOf 171 = 2 := by kernel_rfl
set_option maxRecDepth 100000 in
theorem open_vers {H : Type} {enc : TypeId × Value → H} {W : World} {r : Reach} {base b0 : Nat} {v : Value} {d : DataW H} {p : List MemPlace} (hv : Value.okWide Try.prog W r base 42 v) (h : DataW.Trod enc Try.prog W b0 (fun _ => true) true 42 v d p) :
    ∃ l : List Ver, Sl W 3 v l.length (l.flatMap vercells) ∧ Lo v W.heap.size ∧ ∀ x ∈ l, x.wf := open_slc Try.underlying42 cells169 (by decide) vercells Ver.wf el_ver hv h
set_option maxRecDepth 100000 in
theorem open_srcs {H : Type} {enc : TypeId × Value → H} {W : World} {r : Reach} {base b0 : Nat} {v : Value} {d : DataW H} {p : List MemPlace} (hv : Value.okWide Try.prog W r base 43 v) (h : DataW.Trod enc Try.prog W b0 (fun _ => true) true 43 v d p) :
    ∃ l : List Src, Sl W 2 v l.length (l.flatMap srccells) ∧ Lo v W.heap.size ∧ ∀ x ∈ l, x.wf := open_slc Try.underlying43 cells171 (by decide) srccells Src.wf el_src hv h
end

/-! ## Open2 -/
section
open Go.ChangeShapes Go.WideShapes Go.ChangeAt Go.RowKit Go.Deep

theorem cells45 : Try.prog.cellsOf 45 = 32 := by kernel_rfl
theorem cells5 : Try.prog.cellsOf 5 = 1 := by kernel_rfl
theorem u8_range {a : Int} (h : (Lit.int .u8 a).wf = true) : 0 ≤ a ∧ a < 256 := by
  simp [Lit.wf] at h
  have e1 : IntKind.u8.min = 0 := by decide
  have e2 : IntKind.u8.max = 255 := by decide
  omega
theorem el_dig {H : Type} {enc : TypeId × Value → H} {W : World} {b0 : Nat} : ∀ fuel cs y, DataW.trod enc Try.prog W b0 (fun _ => true) true fuel 45 cs = some y → ∃ x : List Nat, cs = bv x ∧ x.length = 32 ∧ ∀ b ∈ x, b < 256 := by
  intro fuel cs y h
  obtain ⟨xs, k, _, _, hl, hxl, hf⟩ := DataW.trod_array Try.underlying45 h
  rw [cells45] at hl
  rw [cells5] at hf
  obtain ⟨L, hL, hp⟩ := list_of (fun i (b : Nat) => cs[i]? = some (.int .u8 (b : Int)) ∧ b < 256) 32 fun i hi => by
    have h1 := hf i hi
    rw [List.getElem?_eq_getElem (by omega)] at h1
    obtain ⟨n, h2, _, h3⟩ := DataW.trod_int Try.underlying5 h1
    have hr := u8_range h3
    refine ⟨n.toNat, ?_, by omega⟩
    have h4 : ((cs.drop (i * 1)).take 1)[0]? = some (.int .u8 n) := by rw [h2]; rfl
    rw [List.getElem?_take, if_pos (by omega), List.getElem?_drop, Nat.mul_one, Nat.add_zero] at h4
    rw [h4]
    congr 2
    omega
  refine ⟨L, ?_, hL, fun b hb => ?_⟩
  · apply List.ext_getElem?
    intro i
    by_cases hi : i < L.length
    · rw [(hp i hi).1]
      simp [bv, List.getElem?_eq_getElem hi]
    · rw [List.getElem?_eq_none (by omega), List.getElem?_eq_none (by rw [bv_length]; omega)]
  · obtain ⟨i, hi, rfl⟩ := List.getElem_of_mem hb
    exact (hp i hi).2
theorem okWide_array {P : Program} {w : World} {r : Reach} {base : Nat} {t : TypeId} {v : Value} {n : Nat} {e : TypeId} (ht : P.underlying t = some (.array n e)) (h : Value.okWide P w r base t v) : ∃ cs, v = .agg cs := by
  simp only [Value.okWide, ht] at h
  obtain ⟨cs, h1, _⟩ := h
  exact ⟨cs, h1⟩
set_option maxRecDepth 100000 in
theorem open_dig {H : Type} {enc : TypeId × Value → H} {W : World} {r : Reach} {base b0 : Nat} {v : Value} {d : DataW H} {p : List MemPlace} (hv : Value.okWide Try.prog W r base 45 v) (h : DataW.Trod enc Try.prog W b0 (fun _ => true) true 45 v d p) :
    ∃ x : List Nat, v = .agg (bv x).toArray ∧ x.length = 32 ∧ ∀ b ∈ x, b < 256 := by
  obtain ⟨cs, rfl⟩ := okWide_array Try.underlying45 hv
  obtain ⟨fuel, hf⟩ := h
  obtain ⟨x, h1, h2, h3⟩ := el_dig _ _ _ hf
  refine ⟨x, ?_, h2, h3⟩
  rw [← h1]
  rfl
end

/-! ## EqDig -/
section
open Go.RowKit

theorem plain5 : Try.prog.plainKey 5 = true := by kernel_rfl
theorem eqItems_same (d : Nat) (x : List Nat) (w : World) : ∀ is : List Nat, (∀ i ∈ is, i < x.length) → (Op.eqItems (d + 1) 5 1 (bv x).toArray (bv x).toArray is).run Try.prog w = .ok true w
  | [], _ => by simp [Op.eqItems]
  | i :: is, h => by
    have hi := h i List.mem_cons_self
    have hx : (bv x).toArray[i * 1]? = some (.int .u8 (x[i] : Int)) := by simp [bv, List.getElem?_eq_getElem hi]
    have p1 := run_part_plain (P := Try.prog) (w := w) plain5 hx
    have ih := eqItems_same d x w is (fun j hj => h j (List.mem_cons_of_mem _ hj))
    simp only [Op.eqItems, Sem.run_bind, p1, Result.andThen_ok, run_equalIn_int w d 5 .u8 .u8 _ _ Try.underlying5, beq_self_eq_true]
    simpa using ih
theorem dig_eq (x : List Nat) (h : x.length = 32) (px py : Operand) (w : World) : (do eqGuard .eql 45 px py (.agg (bv x).toArray) (.agg (bv x).toArray); binOp .eql 45 (.agg (bv x).toArray) (.agg (bv x).toArray) : Sem Value).run Try.prog w = .ok (.bool true) w := by
  have hg : Try.prog.eqGuardType Try.prog.depth 45 = false := by kernel_rfl
  obtain ⟨i, hi⟩ : ∃ i, Try.prog.info? 5 = some i := by
    have : (Try.prog.info? 5).isSome = true := by kernel_rfl
    exact Option.isSome_iff_exists.1 this
  have he := run_equalIn_array (P := Try.prog) (w := w) 9999 (bv x).toArray (bv x).toArray Try.underlying45 hi
  rw [cells5, eqItems_same 9998 x w _ (fun j hj => by rw [h]; exact List.mem_range.1 hj)] at he
  rw [Sem.run_bind, run_eqGuard_agg (hm := hg), Result.andThen_ok, run_eql_struct, he]
  rfl
end

end Go.Proofs.Ytkeiffccllfkpaa
