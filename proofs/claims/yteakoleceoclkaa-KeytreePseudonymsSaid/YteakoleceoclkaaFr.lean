/- Key trees: what the arguments of the laws are. (printed by mkfr.py) -/
import Derived.Test.YteakoleceoclkaaMK5
import Derived.WalkKit
import Derived.ProofKit
import Derived.OpenShut
import Derived.ShutString
import Derived.ChangeOld
import Derived.Below
import Derived.Deep.Slices
namespace Go.Proofs.Yteakoleceoclkaa
open Go.ChangeShapes Go.WideShapes Go.ChangeAt Go.RowKit Go.Deep
open Go.ChangeMaps (open_string shut_string)
set_option linter.unusedSimpArgs false
set_option linter.unusedVariables false

abbrev I64 (n : Int) : Prop := -9223372036854775808 ≤ n ∧ n ≤ 9223372036854775807

/-- what v reads lies below R -/
def Lo (v : Value) (R : Nat) : Prop := ∀ k, v.ownBlock = some k → k < R
theorem own : ownKnob Try.prog.godebug = none := by kernel_rfl
theorem laidOut : laidOutB Try.prog = true := by kernel_rfl

theorem slice_lo {P : Program} {W : World} {r : Reach} {base : Nat} {t e : TypeId} {a : Option Addr} {len cap : Nat} (ht : P.underlying t = some (.slice e)) (h : Value.okWide P W r base t (.slice a len cap)) :
    Lo (.slice a len cap) W.heap.size ∧ (∀ x, a = some x → x.spot = none) ∧ len ≤ cap ∧ cap ≤ maxLen ∧ (a = none → cap = 0) := by
  simp only [Value.okWide, ht, Cell.okWide] at h
  cases a with
  | none =>
    have : len = 0 ∧ cap = 0 := by
      cases len with
      | zero => cases cap with
        | zero => exact ⟨rfl, rfl⟩
        | succ n => simp [Cell.ok, ht] at h
      | succ n => simp [Cell.ok, ht] at h
    obtain ⟨rfl, rfl⟩ := this
    exact ⟨fun k hk => (by simp [Value.ownBlock] at hk), fun x hx => (by cases hx), Nat.le_refl _, Nat.zero_le _, fun _ => rfl⟩
  | some x =>
    simp only [Cell.ok, ht] at h
    obtain ⟨h1, h2, _, h3, row, cells, h4, _⟩ := h
    refine ⟨fun k hk => ?_, fun y hy => (by cases hy; exact h3), h1, ?_, fun h => (by cases h)⟩
    · simp [Value.ownBlock] at hk
      subst hk
      unfold World.shape? at h4
      cases hb : W.heap[x.block]? with
      | none => simp [hb] at h4
      | some o => exact (Array.getElem?_eq_some_iff.1 hb).1
    · have : IntKind.i64.max = 9223372036854775807 := by decide
      unfold maxLen
      omega

theorem list_of {α : Type} (p : Nat → α → Prop) : ∀ n, (∀ i, i < n → ∃ x, p i x) → ∃ l : List α, l.length = n ∧ ∀ i (h : i < l.length), p i l[i]
  | 0, _ => ⟨[], rfl, fun i h => by simp at h⟩
  | n + 1, h => by
    obtain ⟨l, hl, hp⟩ := list_of p n fun i hi => h i (by omega)
    obtain ⟨x, hx⟩ := h n (by omega)
    refine ⟨l ++ [x], by simp [hl], fun i hi => ?_⟩
    by_cases hin : i < l.length
    · rw [List.getElem_append_left hin]; exact hp i hin
    · have : i = l.length := by simp at hi; omega
      subst this
      rw [List.getElem_append_right (Nat.le_refl _)]
      simpa [hl] using hx
theorem flat_size {α β : Type} {f : α → List β} {n : Nat} : ∀ (L : List α), (∀ y ∈ L, (f y).length = n) → (L.flatMap f).length = L.length * n
  | [], _ => by simp
  | y :: l, h => by
    rw [List.flatMap_cons, List.length_append, h y List.mem_cons_self, flat_size l (fun z hz => h z (List.mem_cons_of_mem _ hz)), List.length_cons, Nat.add_mul]
    omega
theorem flat_get {α β : Type} (f : α → List β) (n : Nat) : ∀ (l : List α), (∀ x ∈ l, (f x).length = n) → ∀ (k : Nat) (hk : k < l.length) (j : Nat), j < n → (l.flatMap f)[k * n + j]? = (f l[k])[j]?
  | [], _, k, hk, _, _ => by simp at hk
  | x :: l, hf, 0, hk, j, hj => by
    rw [List.flatMap_cons, List.getElem?_append_left (by rw [hf x List.mem_cons_self]; omega)]
    simp
  | x :: l, hf, k + 1, hk, j, hj => by
    have hx := hf x List.mem_cons_self
    rw [List.flatMap_cons, List.getElem?_append_right (by rw [hx, Nat.add_mul]; omega), hx]
    have e : (k + 1) * n + j - n = k * n + j := by rw [Nat.add_mul]; omega
    rw [e, flat_get f n l (fun y hy => hf y (List.mem_cons_of_mem _ hy)) k (by simpa using hk) j hj]
    simp
set_option maxRecDepth 100000 in
theorem int_range {a : Int} (h : (Lit.int .i64 a).wf = true) : I64 a := by
  simp [Lit.wf] at h
  have e1 : IntKind.i64.min = -9223372036854775808 := by decide
  have e2 : IntKind.i64.max = 9223372036854775807 := by decide
  omega
/-- a slice whose elements are read by f, each with Q -/
theorem open_slc {P : Program} {H α : Type} {enc : TypeId × Value → H} {W : World} {r : Reach} {base b0 : Nat} {t e : TypeId} {v : Value} {d : DataW H} {p : List MemPlace} {n : Nat} (ht : P.underlying t = some (.slice e)) (hc : P.cellsOf e = n) (hn : 0 < n) (f : α → List Value) (Q : α → Prop)
    (hel : ∀ fuel cs y, DataW.trod enc P W b0 (fun _ => true) true fuel e cs = some y → ∃ x, cs = f x ∧ (f x).length = n ∧ Q x)
    (hv : Value.okWide P W r base t v) (h : DataW.Trod enc P W b0 (fun _ => true) true t v d p) :
    ∃ l : List α, Sl W n v l.length (l.flatMap f) ∧ Lo v W.heap.size ∧ ∀ x ∈ l, Q x := by
  obtain ⟨a, len, cap, rfl⟩ := okWide_slice ht hv
  obtain ⟨l1, l2, l3, l4, l5⟩ := slice_lo ht hv
  obtain ⟨fuel, hf⟩ := h
  rcases open_slice ht hf with ⟨hcs, _⟩ | ⟨x, l, c, m, k, D, Pl, hcs, _, hl, hm, hmm, _, hx⟩
  · simp [Value.cells] at hcs
    obtain ⟨rfl, rfl, rfl⟩ := hcs
    exact ⟨[], Sl.nil _ _, l1, by simp⟩
  · simp [Value.cells] at hcs
    obtain ⟨rfl, rfl, rfl⟩ := hcs
    have hs := l2 x rfl
    obtain ⟨b, off, spot⟩ := x
    simp only at hs
    subst hs
    rw [if_pos rfl] at hmm
    subst hmm
    rw [hc] at hx
    obtain ⟨L, hL, hp⟩ := list_of (fun i (y : α) => (∀ j u, (f y)[j]? = some u → W.cell? ⟨b, off + (i * n + j), none⟩ = some u) ∧ (f y).length = n ∧ Q y) len fun i hi => by
      obtain ⟨cs, h1, h2⟩ := hx i (by omega)
      obtain ⟨y, rfl, hy, hq⟩ := hel _ _ _ h2
      refine ⟨y, fun j u hu => ?_, hy, hq⟩
      obtain ⟨_, hlen, hcell⟩ := World.cells?_some h1
      have hj : j < n := by have := (List.getElem?_eq_some_iff.1 hu).1; omega
      have := hcell j hj
      rw [add_add, Addr.add_lit] at this
      rw [this]
      exact hu
    subst hL
    have hfl : ∀ y ∈ L, (f y).length = n := fun y hy => by
      obtain ⟨i, hi, rfl⟩ := List.getElem_of_mem hy
      exact (hp i hi).2.1
    refine ⟨L, ⟨?_, some ⟨b, off, none⟩, _, rfl, hl, hm, fun h => (by cases h), fun ad had => ?_⟩, l1, fun y hy => ?_⟩
    · exact flat_size L hfl
    · obtain rfl := Option.some.inj had
      refine ⟨fun _ => rfl, fun j u hu => ?_⟩
      have hjl := (List.getElem?_eq_some_iff.1 hu).1
      have htot := flat_size L hfl
      have hk : j / n < L.length := (Nat.div_lt_iff_lt_mul hn).2 (by omega)
      have hjm : j % n < n := Nat.mod_lt _ hn
      have hje : j / n * n + j % n = j := by rw [Nat.mul_comm]; exact Nat.div_add_mod j n
      have h2 := flat_get f n L hfl (j / n) hk (j % n) hjm
      rw [hje, hu] at h2
      have h3 := (hp (j / n) hk).1 (j % n) u h2.symm
      rw [hje] at h3
      exact h3
    · obtain ⟨i, hi, rfl⟩ := List.getElem_of_mem hy
      exact (hp i hi).2.2
/-- one field's cells are read -/
theorem fld {P : Program} {H : Type} {enc : TypeId × Value → H} {W : World} {b0 k : Nat} {fs : Array Field} {cs : List Value} {xs : List (DataW H × List MemPlace)} (hxl : xs.length = fs.size)
    (hf : ∀ (i : Nat) (f : Field), fs[i]? = some f → DataW.trod enc P W b0 (fun _ => true) true k f.type ((cs.drop f.offset).take (P.cellsOf f.type)) = xs[i]?) (i : Nat) (f : Field) (hi : fs[i]? = some f) (c : Nat) (hc : P.cellsOf f.type = c) :
    ∃ y, DataW.trod enc P W b0 (fun _ => true) true k f.type ((cs.drop f.offset).take c) = some y := by
  have h := hf i f hi
  rw [hc] at h
  have hl : i < xs.length := by rw [hxl]; exact (Array.getElem?_eq_some_iff.1 hi).1
  exact ⟨xs[i], by rw [h, List.getElem?_eq_getElem hl]⟩
/-- one field's cells -/
theorem fld_at {P : Program} {H : Type} {enc : TypeId × Value → H} {W : World} {b0 k : Nat} {fs : Array Field} {cs : List Value} {xs : List (DataW H × List MemPlace)} (hxl : xs.length = fs.size)
    (hf : ∀ (i : Nat) (f : Field), fs[i]? = some f → DataW.trod enc P W b0 (fun _ => true) true k f.type ((cs.drop f.offset).take (P.cellsOf f.type)) = xs[i]?) (i : Nat) (f : Field) (hi : fs[i]? = some f) (T : TypeId) (ht : f.type = T) (c : Nat) (hc : P.cellsOf T = c) :
    ∃ y, DataW.trod enc P W b0 (fun _ => true) true k T ((cs.drop f.offset).take c) = some y := by
  subst ht
  exact fld hxl hf i f hi c hc
/-- a slice that lies in a cell: its shape, and, if it is not empty, what it reads -/
def Nest (W : World) (n : Nat) (v : Value) (len : Nat) (xs : List Value) : Prop :=
  (∃ ao cap, v = .slice ao len cap ∧ len ≤ cap ∧ cap ≤ maxLen ∧ (ao = none → cap = 0)) ∧ (0 < len → Sl W n v len xs ∧ Lo v W.heap.size)
theorem nest_slc {P : Program} {H α : Type} {enc : TypeId × Value → H} {W : World} {b0 fuel : Nat} {t e : TypeId} {cs : List Value} {y : DataW H × List MemPlace} {n : Nat} (ht : P.underlying t = some (.slice e)) (hc : P.cellsOf e = n) (hn : 0 < n) (f : α → List Value) (Q : α → Prop)
    (hel : ∀ fuel cs y, DataW.trod enc P W b0 (fun _ => true) true fuel e cs = some y → ∃ x, cs = f x ∧ (f x).length = n ∧ Q x)
    (h : DataW.trod enc P W b0 (fun _ => true) true fuel t cs = some y) :
    ∃ (v : Value) (l : List α), cs = [v] ∧ Nest W n v l.length (l.flatMap f) ∧ ∀ x ∈ l, Q x := by
  rcases open_slice ht h with ⟨hcs, _⟩ | ⟨x, l, c, m, k, D, Pl, hcs, _, hl, hm, hmm, _, hx⟩
  · exact ⟨_, [], hcs, ⟨⟨none, 0, rfl, Nat.le_refl _, Nat.zero_le _, fun _ => rfl⟩, fun h => absurd h (by simp)⟩, by simp⟩
  · rw [if_pos rfl] at hmm
    subst hmm
    rw [hc] at hx
    obtain ⟨L, hL, hp⟩ := list_of (fun i (y : α) => (∀ j u, (f y)[j]? = some u → W.cell? (x.add (i * n + j)) = some u) ∧ (f y).length = n ∧ Q y) l fun i hi => by
      obtain ⟨cs', h1, h2⟩ := hx i (by omega)
      obtain ⟨y, rfl, hy, hq⟩ := hel _ _ _ h2
      refine ⟨y, fun j u hu => ?_, hy, hq⟩
      obtain ⟨_, hlen, hcell⟩ := World.cells?_some h1
      have hj : j < n := by have := (List.getElem?_eq_some_iff.1 hu).1; omega
      have := hcell j hj
      rw [add_add] at this
      rw [this]
      exact hu
    subst hL
    have hfl : ∀ y ∈ L, (f y).length = n := fun y hy => by
      obtain ⟨i, hi, rfl⟩ := List.getElem_of_mem hy
      exact (hp i hi).2.1
    refine ⟨_, L, hcs, ⟨⟨some x, _, rfl, hl, hm, fun h => by cases h⟩, fun hpos => ?_⟩, fun y hy => ?_⟩
    · have hcell : ∀ j u, (L.flatMap f)[j]? = some u → W.cell? (x.add j) = some u := fun j u hu => by
        have hjl := (List.getElem?_eq_some_iff.1 hu).1
        have htot := flat_size L hfl
        have hk : j / n < L.length := (Nat.div_lt_iff_lt_mul hn).2 (by omega)
        have hjm : j % n < n := Nat.mod_lt _ hn
        have hje : j / n * n + j % n = j := by rw [Nat.mul_comm]; exact Nat.div_add_mod j n
        have h2 := flat_get f n L hfl (j / n) hk (j % n) hjm
        rw [hje, hu] at h2
        have h3 := (hp (j / n) hk).1 (j % n) u h2.symm
        rw [hje] at h3
        exact h3
      have htot := flat_size L hfl
      have h0 : 0 < (L.flatMap f).length := by rw [htot]; exact Nat.mul_pos hpos hn
      have hz := hcell 0 _ (List.getElem?_eq_getElem h0)
      have hs0 := World.cell?_spot hz
      obtain ⟨b, off, spot⟩ := x
      have hs : spot = none := by
        cases spot with
        | none => rfl
        | some s => simp [Addr.add] at hs0
      subst hs
      have hlt := World.block_lt_of_cell? W _ hz
      rw [Addr.add_lit] at hlt
      refine ⟨⟨htot, some ⟨b, off, none⟩, _, rfl, hl, hm, fun h => (by cases h), fun ad had => ?_⟩, fun k hk => ?_⟩
      · obtain rfl := Option.some.inj had
        refine ⟨fun _ => rfl, fun j u hu => ?_⟩
        have := hcell j u hu
        rwa [Addr.add_lit] at this
      · simp [Value.ownBlock] at hk
        subst hk
        exact hlt
    · obtain ⟨i, hi, rfl⟩ := List.getElem_of_mem hy
      exact (hp i hi).2.2
theorem cell_lo {P : Program} {W : World} {r : Reach} {base : Nat} {u : TypeId} {ao : Option Addr} {len cap : Nat} (h : Cell.okWide P W r base u (.slice ao len cap)) : Lo (.slice ao len cap) W.heap.size ∧ ∀ x, ao = some x → x.spot = none := by
  cases ao with
  | none => exact ⟨fun k hk => by simp [Value.ownBlock] at hk, fun x hx => by cases hx⟩
  | some x =>
    have h2 : ∃ e, W.has P r base x e cap := by
      unfold Cell.okWide at h
      cases hu : P.underlying u with
      | none => simp [hu, Cell.ok] at h
      | some d => cases d <;> simp [hu, Cell.ok] at h; exact ⟨_, h.2.2⟩
    obtain ⟨e, _, h3, row, cells, h4, _⟩ := h2
    refine ⟨fun k hk => ?_, fun y hy => (by cases hy; exact h3)⟩
    simp [Value.ownBlock] at hk
    subst hk
    unfold World.shape? at h4
    cases hb : W.heap[x.block]? with
    | none => simp [hb] at h4
    | some o => exact (Array.getElem?_eq_some_iff.1 hb).1
/-- a slice in a cell of an argument -/
theorem Nest.top {P : Program} {W : World} {r : Reach} {base n : Nat} {u : TypeId} {v : Value} {len : Nat} {xs : List Value} (h : Nest W n v len xs) (hx : len = 0 → xs = []) (hc : Cell.okWide P W r base u v) : Sl W n v len xs ∧ Lo v W.heap.size := by
  obtain ⟨⟨ao, cap, rfl, h1, h2, h3⟩, h4⟩ := h
  obtain ⟨hlo, hsp⟩ := cell_lo hc
  rcases Nat.eq_zero_or_pos len with rfl | hp
  · rw [hx rfl]
    exact ⟨⟨by simp, ao, cap, rfl, h1, h2, h3, fun a ha => ⟨fun _ => hsp a ha, fun j u hu => by simp at hu⟩⟩, hlo⟩
  · exact h4 hp
theorem okWide_fields {P : Program} {w : World} {r : Reach} {base : Nat} {t : TypeId} {v : Value} {fs : Array Field} (ht : P.underlying t = some (.struct fs)) (h : Value.okWide P w r base t v) :
    ∃ cs : Array Value, v = .agg cs ∧ ∀ (i : Nat) (c : Value), cs[i]? = some c → ∃ u, Cell.okWide P w r base u c := by
  simp only [Value.okWide, ht] at h
  obtain ⟨cs, h1, _, ts, _, _, h2⟩ := h
  exact ⟨cs, h1, fun i c hc => let ⟨u, _, hu⟩ := h2 i c hc; ⟨u, hu⟩⟩
theorem okWide_array {P : Program} {w : World} {r : Reach} {base : Nat} {t : TypeId} {v : Value} {n : Nat} {e : TypeId} (ht : P.underlying t = some (.array n e)) (h : Value.okWide P w r base t v) : ∃ cs, v = .agg cs := by
  simp only [Value.okWide, ht] at h
  obtain ⟨cs, h1, _⟩ := h
  exact ⟨cs, h1⟩
theorem u8_range {a : Int} (h : (Lit.int .u8 a).wf = true) : 0 ≤ a ∧ a < 256 := by
  simp [Lit.wf] at h
  have e1 : IntKind.u8.min = 0 := by decide
  have e2 : IntKind.u8.max = 255 := by decide
  omega
theorem cellsTwo : Try.prog.cellsOf 22 = 2 := by kernel_rfl
theorem cellsTr : Try.prog.cellsOf 34 = 1 := by kernel_rfl
theorem cellsNs : Try.prog.cellsOf 32 = 1 := by kernel_rfl
theorem el_int {H : Type} {enc : TypeId × Value → H} {W : World} {b0 : Nat} : ∀ fuel cs y, DataW.trod enc Try.prog W b0 (fun _ => true) true fuel 3 cs = some y → ∃ n : Int, cs = [.int .i64 n] ∧ ([Value.int .i64 n] : List Value).length = 1 ∧ I64 n := by
  intro fuel cs y h
  obtain ⟨n, h1, _, h2⟩ := DataW.trod_int Try.underlying3 h
  exact ⟨n, h1, rfl, int_range h2⟩
theorem el_i64 {H : Type} {enc : TypeId × Value → H} {W : World} {b0 : Nat} : ∀ fuel cs y, DataW.trod enc Try.prog W b0 (fun _ => true) true fuel 2 cs = some y → ∃ n : Int, cs = [.int .i64 n] ∧ ([Value.int .i64 n] : List Value).length = 1 ∧ I64 n := by
  intro fuel cs y h
  obtain ⟨n, h1, _, h2⟩ := DataW.trod_int Try.underlying2 h
  exact ⟨n, h1, rfl, int_range h2⟩
theorem el_dig {H : Type} {enc : TypeId × Value → H} {W : World} {b0 : Nat} : ∀ fuel cs y, DataW.trod enc Try.prog W b0 (fun _ => true) true fuel 29 cs = some y → ∃ x : List Nat, cs = bv x ∧ x.length = 32 ∧ ∀ b ∈ x, b < 256 := by
  intro fuel cs y h
  obtain ⟨xs, k, _, _, hl, hxl, hf⟩ := DataW.trod_array Try.underlying29 h
  rw [cellsD] at hl
  rw [cells5'] at hf
  obtain ⟨L, hL, hp⟩ := list_of (fun i (b : Nat) => cs[i]? = some (.int .u8 (b : Int)) ∧ b < 256) 32 fun i hi => by
    have h1 := hf i hi
    rw [List.getElem?_eq_getElem (by omega)] at h1
    obtain ⟨n, h2, _, h3⟩ := DataW.trod_int Try.underlying5 h1
    have hr := u8_range h3
    refine ⟨n.toNat, ?_, by omega⟩
    have h4 : ((cs.drop (i * 1)).take 1)[0]? = some (.int .u8 n) := by rw [h2]; rfl
    rw [List.getElem?_take, if_pos (by omega), List.getElem?_drop, Nat.mul_one, Nat.add_zero] at h4
    rw [h4]
    congr 2
    omega
  refine ⟨L, ?_, hL, fun b hb => ?_⟩
  · apply List.ext_getElem?
    intro i
    by_cases hi : i < L.length
    · rw [(hp i hi).1]
      simp [bv, List.getElem?_eq_getElem hi]
    · rw [List.getElem?_eq_none (by omega), List.getElem?_eq_none (by rw [bv_length]; omega)]
  · obtain ⟨i, hi, rfl⟩ := List.getElem_of_mem hb
    exact (hp i hi).2
set_option maxRecDepth 100000 in
theorem open_dig {H : Type} {enc : TypeId × Value → H} {W : World} {r : Reach} {base b0 : Nat} {v : Value} {d : DataW H} {p : List MemPlace} (hv : Value.okWide Try.prog W r base 29 v) (h : DataW.Trod enc Try.prog W b0 (fun _ => true) true 29 v d p) : ∃ x : List Nat, v = dval x ∧ Dg x := by
  obtain ⟨cs, rfl⟩ := okWide_array Try.underlying29 hv
  obtain ⟨fuel, hf⟩ := h
  obtain ⟨x, h1, h2, h3⟩ := el_dig _ _ _ hf
  refine ⟨x, ?_, h2, h3⟩
  unfold dval
  rw [← h1]
  rfl
set_option maxRecDepth 100000 in
theorem open_two {H : Type} {enc : TypeId × Value → H} {W : World} {r : Reach} {base b0 : Nat} {v : Value} {d : DataW H} {p : List MemPlace} (hv : Value.okWide Try.prog W r base 22 v) (h : DataW.Trod enc Try.prog W b0 (fun _ => true) true 22 v d p) : ∃ a b : Int, v = .agg #[.int .i64 a, .int .i64 b] ∧ I64 a ∧ I64 b := by
  obtain ⟨cs, rfl⟩ := okWide_array Try.underlying22 hv
  obtain ⟨fuel, hf⟩ := h
  have hf' : DataW.trod enc Try.prog W b0 (fun _ => true) true fuel 22 cs.toList = some (d, p) := hf
  obtain ⟨xs, k, _, _, hl, hxl, hf⟩ := DataW.trod_array Try.underlying22 hf'
  rw [cellsTwo] at hl
  rw [cellsI] at hf
  obtain ⟨l⟩ := cs
  match l, hl with
  | [a, b], _ =>
    have t0 := hf 0 (by decide)
    have t1 := hf 1 (by decide)
    rw [List.getElem?_eq_getElem (by omega)] at t0 t1
    obtain ⟨n0, e0, _, w0⟩ := el_int _ _ _ t0
    obtain ⟨n1, e1, _, w1⟩ := el_int _ _ _ t1
    simp at e0 e1
    subst e0 e1
    exact ⟨n0, n1, rfl, w0, w1⟩
/-- numbers as cells -/
def icells (l : List Int) : List Value := l.flatMap fun n => [.int .i64 n]
set_option maxRecDepth 100000 in
theorem open_i64s {H : Type} {enc : TypeId × Value → H} {W : World} {r : Reach} {base b0 : Nat} {v : Value} {d : DataW H} {p : List MemPlace} (hv : Value.okWide Try.prog W r base 37 v) (h : DataW.Trod enc Try.prog W b0 (fun _ => true) true 37 v d p) : ∃ l : List Int, Sl W 1 v l.length (icells l) ∧ ∀ x ∈ l, I64 x := by
  obtain ⟨l, h1, _, h3⟩ := open_slc Try.underlying37 cellsI6 (by decide) (fun n => [.int .i64 n]) _ el_i64 hv h
  exact ⟨l, h1, h3⟩
set_option maxRecDepth 100000 in
theorem open_ints {H : Type} {enc : TypeId × Value → H} {W : World} {r : Reach} {base b0 : Nat} {v : Value} {d : DataW H} {p : List MemPlace} (hv : Value.okWide Try.prog W r base 43 v) (h : DataW.Trod enc Try.prog W b0 (fun _ => true) true 43 v d p) : ∃ l : List Int, Sl W 1 v l.length (icells l) ∧ ∀ x ∈ l, I64 x := by
  obtain ⟨l, h1, _, h3⟩ := open_slc Try.underlying43 cellsI (by decide) (fun n => [.int .i64 n]) _ el_int hv h
  exact ⟨l, h1, h3⟩
set_option maxRecDepth 100000 in
theorem open_i64b {H : Type} {enc : TypeId × Value → H} {W : World} {r : Reach} {base b0 : Nat} {v : Value} {d : DataW H} {p : List MemPlace} (hv : Value.okWide Try.prog W r base 37 v) (h : DataW.Trod enc Try.prog W b0 (fun _ => true) true 37 v d p) : ∃ l : List Int, Sl W 1 v l.length (icells l) ∧ Lo v W.heap.size := by
  obtain ⟨l, h1, h2, _⟩ := open_slc Try.underlying37 cellsI6 (by decide) (fun n => [.int .i64 n]) _ el_i64 hv h
  exact ⟨l, h1, h2⟩
set_option maxRecDepth 100000 in
theorem open_intb {H : Type} {enc : TypeId × Value → H} {W : World} {r : Reach} {base b0 : Nat} {v : Value} {d : DataW H} {p : List MemPlace} (hv : Value.okWide Try.prog W r base 43 v) (h : DataW.Trod enc Try.prog W b0 (fun _ => true) true 43 v d p) : ∃ l : List Int, Sl W 1 v l.length (icells l) ∧ Lo v W.heap.size := by
  obtain ⟨l, h1, h2, _⟩ := open_slc Try.underlying43 cellsI (by decide) (fun n => [.int .i64 n]) _ el_int hv h
  exact ⟨l, h1, h2⟩
set_option maxRecDepth 100000 in
theorem el_nd {H : Type} {enc : TypeId × Value → H} {W : World} {b0 : Nat} : ∀ fuel cs y, DataW.trod enc Try.prog W b0 (fun _ => true) true fuel 91 cs = some y → ∃ n : Nd, cs = ncells n ∧ (ncells n).length = 34 ∧ Nok n := by
  intro fuel cs y h
  obtain ⟨xs, k, _, _, hl, hxl, hf⟩ := DataW.trod_struct Try.underlying91 h
  rw [cellsNd] at hl
  obtain ⟨y0, t0⟩ := fld_at hxl hf 0 _ rfl 3 rfl 1 cellsI
  obtain ⟨y1, t1⟩ := fld_at hxl hf 1 _ rfl 2 rfl 1 cellsI6
  obtain ⟨y2, t2⟩ := fld_at hxl hf 2 _ rfl 29 rfl 32 cellsD
  obtain ⟨n0, e0, _, w0⟩ := el_int _ _ _ t0
  obtain ⟨n1, e1, _, w1⟩ := el_i64 _ _ _ t1
  obtain ⟨x, e2, w2, w3⟩ := el_dig _ _ _ t2
  match cs, hl, e0, e1, e2 with
  | a :: b :: r, hl, e0, e1, e2 =>
    have e0 : [a] = [.int .i64 n0] := e0
    have e1 : [b] = [.int .i64 n1] := e1
    have e2 : r.take 32 = bv x := e2
    rw [List.take_of_length_le (by simp only [List.length_cons] at hl; omega)] at e2
    refine ⟨⟨n0, n1, x⟩, ?_, ncells_len _ w2, ⟨w2, w3⟩, w0, w1⟩
    unfold ncells
    rw [(List.cons.inj e0).1, (List.cons.inj e1).1, e2]
set_option maxRecDepth 100000 in
theorem open_tree {H : Type} {enc : TypeId × Value → H} {W : World} {r : Reach} {base b0 : Nat} {v : Value} {d : DataW H} {p : List MemPlace} (hv : Value.okWide Try.prog W r base 34 v) (h : DataW.Trod enc Try.prog W b0 (fun _ => true) true 34 v d p) : ∃ (l : List Nd) (s : Value), v = .agg #[s] ∧ Sl W 34 s l.length (tcells l) ∧ Lo s W.heap.size ∧ ∀ n ∈ l, Nok n := by
  obtain ⟨cs, rfl, hcell⟩ := okWide_fields Try.underlying34 hv
  obtain ⟨fuel, hf⟩ := h
  have hf' : DataW.trod enc Try.prog W b0 (fun _ => true) true fuel 34 cs.toList = some (d, p) := hf
  obtain ⟨xs, k, _, _, hl, hxl, hf⟩ := DataW.trod_struct Try.underlying34 hf'
  rw [cellsTr] at hl
  obtain ⟨l⟩ := cs
  match l, hl with
  | [b], _ =>
    obtain ⟨y1, t1⟩ := fld_at hxl hf 0 _ rfl 32 rfl 1 cellsNs
    obtain ⟨v1, l1, e1, nn, w1⟩ := nest_slc Try.underlying32 cellsNd (by decide) ncells Nok el_nd t1
    simp at e1
    subst e1
    obtain ⟨u0, c0⟩ := hcell 0 b rfl
    have ht := nn.top (fun h => by rw [List.eq_nil_of_length_eq_zero h]; rfl) c0
    exact ⟨l1, b, rfl, ht.1, ht.2, w1⟩
end Go.Proofs.Yteakoleceoclkaa
