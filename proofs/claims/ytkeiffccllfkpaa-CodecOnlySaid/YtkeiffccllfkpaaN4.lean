/- Arguments of the laws that are values, rows, records, bags, changes, identifiers, requests, links, holds: opened. -/
import Derived.Test.YtkeiffccllfkpaaN3
namespace Go.Proofs.Ytkeiffccllfkpaa
open Go.ChangeShapes Go.WideShapes Go.ChangeAt Go.RowKit Go.Deep

/-- a slice that lies in a cell: its shape, and, if it is not empty, what it reads -/
def Nest (W : World) (n : Nat) (v : Value) (len : Nat) (xs : List Value) : Prop :=
  (∃ ao cap, v = .slice ao len cap ∧ len ≤ cap ∧ cap ≤ maxLen ∧ (ao = none → cap = 0)) ∧ (0 < len → Sl W n v len xs ∧ Lo v W.heap.size)
theorem nest_slc {P : Program} {H α : Type} {enc : TypeId × Value → H} {W : World} {b0 fuel : Nat} {t e : TypeId} {cs : List Value} {y : DataW H × List MemPlace} {n : Nat} (ht : P.underlying t = some (.slice e)) (hc : P.cellsOf e = n) (hn : 0 < n) (f : α → List Value) (Q : α → Prop)
    (hel : ∀ fuel cs y, DataW.trod enc P W b0 (fun _ => true) true fuel e cs = some y → ∃ x, cs = f x ∧ (f x).length = n ∧ Q x)
    (h : DataW.trod enc P W b0 (fun _ => true) true fuel t cs = some y) :
    ∃ (v : Value) (l : List α), cs = [v] ∧ Nest W n v l.length (l.flatMap f) ∧ ∀ x ∈ l, Q x := by
  rcases open_slice ht h with ⟨hcs, _⟩ | ⟨x, l, c, m, k, D, Pl, hcs, _, hl, hm, hmm, _, hx⟩
  · exact ⟨_, [], hcs, ⟨⟨none, 0, rfl, Nat.le_refl _, Nat.zero_le _, fun _ => rfl⟩, fun h => absurd h (by simp)⟩, by simp⟩
  · rw [if_pos rfl] at hmm
    subst hmm
    rw [hc] at hx
    obtain ⟨L, hL, hp⟩ := list_of (fun i (y : α) => (∀ j u, (f y)[j]? = some u → W.cell? (x.add (i * n + j)) = some u) ∧ (f y).length = n ∧ Q y) l fun i hi => by
      obtain ⟨cs', h1, h2⟩ := hx i (by omega)
      obtain ⟨y, rfl, hy, hq⟩ := hel _ _ _ h2
      refine ⟨y, fun j u hu => ?_, hy, hq⟩
      obtain ⟨_, hlen, hcell⟩ := World.cells?_some h1
      have hj : j < n := by have := (List.getElem?_eq_some_iff.1 hu).1; omega
      have := hcell j hj
      rw [add_add] at this
      rw [this]
      exact hu
    subst hL
    have hfl : ∀ y ∈ L, (f y).length = n := fun y hy => by
      obtain ⟨i, hi, rfl⟩ := List.getElem_of_mem hy
      exact (hp i hi).2.1
    refine ⟨_, L, hcs, ⟨⟨some x, _, rfl, hl, hm, fun h => by cases h⟩, fun hpos => ?_⟩, fun y hy => ?_⟩
    · have hcell : ∀ j u, (L.flatMap f)[j]? = some u → W.cell? (x.add j) = some u := fun j u hu => by
        have hjl := (List.getElem?_eq_some_iff.1 hu).1
        have htot := flat_size L hfl
        have hk : j / n < L.length := (Nat.div_lt_iff_lt_mul hn).2 (by omega)
        have hjm : j % n < n := Nat.mod_lt _ hn
        have hje : j / n * n + j % n = j := by rw [Nat.mul_comm]; exact Nat.div_add_mod j n
        have h2 := flat_get f n L hfl (j / n) hk (j % n) hjm
        rw [hje, hu] at h2
        have h3 := (hp (j / n) hk).1 (j % n) u h2.symm
        rw [hje] at h3
        exact h3
      have htot := flat_size L hfl
      have h0 : 0 < (L.flatMap f).length := by rw [htot]; exact Nat.mul_pos hpos hn
      have hz := hcell 0 _ (List.getElem?_eq_getElem h0)
      have hs0 := World.cell?_spot hz
      obtain ⟨b, off, spot⟩ := x
      have hs : spot = none := by
        cases spot with
        | none => rfl
        | some s => simp [Addr.add] at hs0
      subst hs
      have hlt := World.block_lt_of_cell? W _ hz
      rw [Addr.add_lit] at hlt
      refine ⟨⟨htot, some ⟨b, off, none⟩, _, rfl, hl, hm, fun h => (by cases h), fun ad had => ?_⟩, fun k hk => ?_⟩
      · obtain rfl := Option.some.inj had
        refine ⟨rfl, fun j u hu => ?_⟩
        have := hcell j u hu
        rwa [Addr.add_lit] at this
      · simp [Value.ownBlock] at hk
        subst hk
        exact hlt
    · obtain ⟨i, hi, rfl⟩ := List.getElem_of_mem hy
      exact (hp i hi).2.2
theorem cell_lo {P : Program} {W : World} {r : Reach} {base : Nat} {u : TypeId} {ao : Option Addr} {len cap : Nat} (h : Cell.okWide P W r base u (.slice ao len cap)) : Lo (.slice ao len cap) W.heap.size ∧ ∀ x, ao = some x → x.spot = none := by
  cases ao with
  | none => exact ⟨fun k hk => by simp [Value.ownBlock] at hk, fun x hx => by cases hx⟩
  | some x =>
    have h2 : ∃ e, W.has P r base x e cap := by
      unfold Cell.okWide at h
      cases hu : P.underlying u with
      | none => simp [hu, Cell.ok] at h
      | some d => cases d <;> simp [hu, Cell.ok] at h; exact ⟨_, h.2.2⟩
    obtain ⟨e, _, h3, row, cells, h4, _⟩ := h2
    refine ⟨fun k hk => ?_, fun y hy => (by cases hy; exact h3)⟩
    simp [Value.ownBlock] at hk
    subst hk
    unfold World.shape? at h4
    cases hb : W.heap[x.block]? with
    | none => simp [hb] at h4
    | some o => exact (Array.getElem?_eq_some_iff.1 hb).1
/-- a slice in a cell of an argument -/
theorem Nest.top {P : Program} {W : World} {r : Reach} {base n : Nat} {u : TypeId} {v : Value} {len : Nat} {xs : List Value} (h : Nest W n v len xs) (hx : len = 0 → xs = []) (hc : Cell.okWide P W r base u v) : Sl W n v len xs ∧ Lo v W.heap.size := by
  obtain ⟨⟨ao, cap, rfl, h1, h2, h3⟩, h4⟩ := h
  obtain ⟨hlo, hsp⟩ := cell_lo hc
  rcases Nat.eq_zero_or_pos len with rfl | hp
  · rw [hx rfl]
    exact ⟨⟨by simp, ao, cap, rfl, h1, h2, h3, fun a ha => ⟨hsp a ha, fun j u hu => by simp at hu⟩⟩, hlo⟩
  · exact h4 hp
/-- one field's cells -/
theorem fld_at {P : Program} {H : Type} {enc : TypeId × Value → H} {W : World} {b0 k : Nat} {fs : Array Field} {cs : List Value} {xs : List (DataW H × List MemPlace)} (hxl : xs.length = fs.size)
    (hf : ∀ (i : Nat) (f : Field), fs[i]? = some f → DataW.trod enc P W b0 (fun _ => true) true k f.type ((cs.drop f.offset).take (P.cellsOf f.type)) = xs[i]?) (i : Nat) (f : Field) (hi : fs[i]? = some f) (T : TypeId) (ht : f.type = T) (c : Nat) (hc : P.cellsOf T = c) :
    ∃ y, DataW.trod enc P W b0 (fun _ => true) true k T ((cs.drop f.offset).take c) = some y := by
  subst ht
  exact fld hxl hf i f hi c hc
theorem cells2 : Try.prog.cellsOf 2 = 1 := by kernel_rfl
theorem cells9 : Try.prog.cellsOf 9 = 1 := by kernel_rfl
theorem cells4 : Try.prog.cellsOf 4 = 1 := by kernel_rfl
theorem cells60 : Try.prog.cellsOf 60 = 1 := by kernel_rfl
theorem cells93 : Try.prog.cellsOf 93 = 1 := by kernel_rfl
theorem cellsVal : Try.prog.cellsOf 67 = 3 := by kernel_rfl
/-- what is told of a value that came in -/
def V.inn (v : V) : Prop := I64 v.kind ∧ I64 v.int ∧ v.text.size ≤ maxLen
set_option maxRecDepth 100000 in
theorem el_val {H : Type} {enc : TypeId × Value → H} {W : World} {b0 : Nat} : ∀ fuel cs y, DataW.trod enc Try.prog W b0 (fun _ => true) true fuel 67 cs = some y → ∃ x : V, cs = vcells x ∧ (vcells x).length = 3 ∧ x.inn := by
  intro fuel cs y h
  obtain ⟨xs, k, _, _, hl, hxl, hf⟩ := DataW.trod_struct Try.underlying67 h
  rw [cellsVal] at hl
  match cs, hl with
  | [a, b, c], _ =>
    obtain ⟨y0, h0⟩ := fld_at hxl hf 0 _ rfl 3 rfl 1 cells3
    obtain ⟨y1, h1⟩ := fld_at hxl hf 1 _ rfl 2 rfl 1 cells2
    obtain ⟨y2, h2⟩ := fld_at hxl hf 2 _ rfl 9 rfl 1 cells9
    obtain ⟨n0, e0, _, r0⟩ := DataW.trod_int Try.underlying3 h0
    obtain ⟨n1, e1, _, r1⟩ := DataW.trod_int Try.underlying2 h1
    obtain ⟨s2, e2, _, r2⟩ := DataW.trod_string Try.underlying9 h2
    simp at e0 e1 e2
    subst e0 e1 e2
    exact ⟨⟨n0, n1, s2⟩, rfl, rfl, int_range r0, int_range r1, r2⟩
set_option maxRecDepth 100000 in
theorem open_row {H : Type} {enc : TypeId × Value → H} {W : World} {r : Reach} {base b0 : Nat} {v : Value} {d : DataW H} {p : List MemPlace} (hv : Value.okWide Try.prog W r base 60 v) (h : DataW.Trod enc Try.prog W b0 (fun _ => true) true 60 v d p) :
    ∃ l : List V, Sl W 3 v l.length (l.flatMap vcells) ∧ Lo v W.heap.size ∧ ∀ x ∈ l, x.inn := open_slc Try.underlying60 cellsVal (by decide) vcells V.inn el_val hv h
end Go.Proofs.Ytkeiffccllfkpaa
