/- Words, regions, rows. (merged by mk.py) -/
import Derived.Test.YteakoleceoclkaaRows
import Derived.Below
import Derived.WalkKit
import Derived.WalkLawsBesides
import Derived.ProofKit
import Derived.Handy
import Derived.WalkSpells
import Derived.Laws.CopyOwn
import Derived.Laws.BitsAllLaws
import Derived.Lib.AppendStr
import Derived.Laws.AppendOwnNone
import Derived.BigQuiet
import Derived.Deep.QuietTactic
import Derived.Deep.MidRow
namespace Go.Proofs.Yteakoleceoclkaa

section
open Go.RowKit
theorem grown_setCell (w : World) (a : Addr) (v : Value) : w.grownBy (w.setCell a v) (some a.block) :=
  ⟨rfl, rfl, rfl, by simp, fun k _ hk => heap_setCell_other w a k v (fun e => hk (by simp [e]))⟩
theorem heap_at {w : World} {o : Obj} {n : Nat} (h : n = w.heap.size) : (w.alloc o).heap[n]? = some o := by subst h; exact Go.heap_alloc_new w o
theorem heap_past {w : World} {o : Obj} {n : Nat} (h : n < w.heap.size) : (w.alloc o).heap[n]? = w.heap[n]? := Below.heap_alloc w o n h
end

/-! ## Base -/
section
open Go.RowKit

/-- a fact kept from the walk -/
theorem hid {p : Prop} (h : p) : Hid p := h
/-- the facts on a slice type t of elements e -/
structure ET (P : Program) (t e : TypeId) (z : Value) (size bytes : Nat) : Prop where
  und : P.underlying t = some (.slice e)
  inf : ∃ i, P.info? e = some i ∧ i.zero = some z ∧ i.size = size ∧ i.bytes = bytes
  zsz : z.cells.size = size
  pos : 0 < size
  bnd : bytes ≤ 128

/-- bytes as cells -/
def bv (l : List Nat) : List Value := l.map fun b : Nat => .int .u8 (b : Int)
@[simp] theorem bv_nil : bv [] = [] := rfl
theorem bv_append (a b : List Nat) : bv (a ++ b) = bv a ++ bv b := by simp [bv]
theorem bv_length (a : List Nat) : (bv a).length = a.length := by simp [bv]

theorem grown_trans {a b c : World} {row : Option Nat} (h : a.grownBy b row) (k : b.grownBy c row) : a.grownBy c row :=
  ⟨k.os.trans h.os, k.tape.trans h.tape, k.output.trans h.output, Nat.le_trans h.size k.size,
    fun i hi hne => (k.block i (Nat.lt_of_lt_of_le hi h.size) hne).trans (h.block i hi hne)⟩
theorem grown_alloc {a b : World} {row : Option Nat} {o : Obj} (k : (a.alloc o).grownBy b row) : a.grownBy b row :=
  grown_trans (World.grownBy_alloc a o row) k
theorem grown_none {a b : World} {row : Option Nat} (h : a.grownBy b none) : a.grownBy b row :=
  ⟨h.os, h.tape, h.output, h.size, fun i hi _ => h.block i hi (by simp)⟩
theorem grown_below {a b : World} {row : Option Nat} (h : a.grownBy b row) {B : Nat} (hB : B ≤ a.heap.size) (hr : ∀ k, row = some k → B ≤ k) : Below B a b :=
  (Below.refl B a).grown h hB hr
theorem below_none {a b : World} (h : Below a.heap.size a b) : a.grownBy b none :=
  ⟨h.os, h.tape, h.output, h.size, fun i hi _ => h.block i hi⟩
theorem none_below {a b : World} (h : a.grownBy b none) : Below a.heap.size a b :=
  ⟨h.os, h.tape, h.output, h.size, fun i hi => h.block i hi (by simp)⟩

theorem grown_own {w wr w' : World} {e : TypeId} {sz : Nat} {v : Value} {n : Nat} {xs : List Value} {row : Option Nat} (hg : w.grownBy wr row) {base : Nat} (hown : wr.ownsRow base e sz v n xs) (hb : w.heap.size ≤ base) (hg' : wr.grownBy w' v.ownBlock) : w.grownBy w' row :=
  ⟨hg'.os.trans hg.os, hg'.tape.trans hg.tape, hg'.output.trans hg.output, Nat.le_trans hg.size hg'.size,
    fun i hi hne => (hg'.block i (Nat.lt_of_lt_of_le hi hg.size) (fun e => by have := (hown.lt i e.symm).1; omega)).trans (hg.block i hi hne)⟩

/-- v owns n elements, the cells xs, at the head of a row -/
abbrev Own (w : World) (e : TypeId) (size : Nat) (v : Value) (n : Nat) (xs : List Value) : Prop := w.ownsRow 0 e size v n xs
abbrev nilS : Value := .slice none 0 0
/-- from w, v to w', v': only v's own row was written, and v' lies in that row or in a new one -/
def Step (w : World) (v : Value) (w' : World) (v' : Value) : Prop :=
  w.grownBy w' v.ownBlock ∧ ∀ k, v'.ownBlock = some k → v.ownBlock = some k ∨ (w.heap.size ≤ k)
theorem Step.refl (w : World) (v : Value) : Step w v w v := ⟨World.grownBy.refl _ _, fun _ h => .inl h⟩
theorem Step.trans {w w1 w2 : World} {v v1 v2 : Value} (h : Step w v w1 v1) (k : Step w1 v1 w2 v2) : Step w v w2 v2 := by
  have hsz := h.1.size
  refine ⟨⟨k.1.os.trans h.1.os, k.1.tape.trans h.1.tape, k.1.output.trans h.1.output, Nat.le_trans h.1.size k.1.size, fun i hi hne => ?_⟩, fun i hi => ?_⟩
  · refine (k.1.block i (by omega) fun e => ?_).trans (h.1.block i hi hne)
    rcases h.2 i e.symm with h' | h'
    · exact hne h'.symm
    · omega
  · rcases k.2 i hi with h' | h'
    · exact h.2 i h'
    · exact .inr (by omega)
theorem Step.alloc {w w' : World} {v v' : Value} {o : Obj} (k : Step (w.alloc o) v w' v') : Step w v w' v' :=
  ⟨grown_alloc k.1, fun i hi => (k.2 i hi).imp id fun h => by simp at h; omega⟩
theorem Step.grown {w w1 w' : World} {v v' : Value} (h : w.grownBy w1 none) (k : Step w1 v w' v') : Step w v w' v' :=
  Step.trans ⟨grown_none h, fun _ h => .inl h⟩ k
theorem Step.drew {w w' : World} {v v' : Value} (k : Step w.drew v w' v') : Step w v w' v' := ⟨⟨k.1.os, k.1.tape, k.1.output, k.1.size, k.1.block⟩, k.2⟩
theorem Step.then_alloc {w w' : World} {v v' : Value} (k : Step w v w' v') (o : Obj) : Step w v (w'.alloc o) v' :=
  ⟨grown_trans k.1 (World.grownBy_alloc _ _ _), k.2⟩
/-- what a call leaves that made v' anew -/
abbrev Fresh (w : World) (w' : World) (v' : Value) : Prop := Step w nilS w' v'
theorem Step.fresh {w w' : World} {v' : Value} (h : w.grownBy w' none) (k : ∀ i, v'.ownBlock = some i → w.heap.size ≤ i) : Fresh w w' v' := ⟨h, fun i hi => .inr (k i hi)⟩
theorem Fresh.lit (w : World) (o : Obj) (n c : Nat) : Fresh w (w.alloc o) (.slice (some ⟨w.heap.size, 0, none⟩) n c) :=
  ⟨World.grownBy_alloc _ _ _, fun k hk => .inr (by simp [Value.ownBlock] at hk; omega)⟩
theorem Step.none {w w' : World} {v' : Value} (h : Fresh w w' v') : w.grownBy w' none := h.1
theorem Own.fresh {w w' : World} {e : TypeId} {size n : Nat} {v : Value} {xs : List Value} (h : w'.ownsRow w.heap.size e size v n xs) (hg : w.grownBy w' none) : Fresh w w' v :=
  ⟨hg, fun k hk => .inr (h.lt k hk).1⟩
theorem Own.of {w : World} {base : Nat} {e : TypeId} {size n : Nat} {v : Value} {xs : List Value} (h : w.ownsRow base e size v n xs) : Own w e size v n xs := by
  refine ⟨h.1, ?_⟩
  rcases h.2 with h | ⟨g, cap, cur, h1, _, h2⟩
  · exact .inl h
  · exact .inr ⟨g, cap, cur, h1, Nat.zero_le _, h2⟩
theorem Own.nil (w : World) (e : TypeId) (size : Nat) : Own w e size nilS 0 [] := World.ownsRow_nil _ _ _ _
/-- an owned row lies in a block of its element's type -/
theorem Own.ne {w : World} {base : Nat} {e e' : TypeId} {size n : Nat} {v : Value} {xs : List Value} (h : w.ownsRow base e size v n xs) {k : Nat} {c : Array Value} {fr : Nat × Nat} (hk : w.heap[k]? = some (.cells c e' fr)) (hne : e ≠ e') : v.ownBlock ≠ some k := by
  intro hv
  rcases h.2 with ⟨rfl, _⟩ | ⟨g, cap, cur, rfl, _, hg, _⟩
  · simp [Value.ownBlock] at hv
  · simp [Value.ownBlock] at hv
    subst hv
    rw [hg] at hk
    simp at hk
    exact hne hk.2.1
theorem Own.lt {w : World} {base : Nat} {e : TypeId} {size n : Nat} {v : Value} {xs : List Value} (h : w.ownsRow base e size v n xs) : ∀ k, v.ownBlock = some k → k < w.heap.size := fun k hk => (h.lt k hk).2

/-- v reads in w as n elements, the cells xs, wherever they lie -/
def Sl (w : World) (sz : Nat) (v : Value) (n : Nat) (xs : List Value) : Prop :=
  xs.length = n * sz ∧ ∃ ao cap, v = .slice ao n cap ∧ n ≤ cap ∧ cap ≤ maxLen ∧ (ao = none → cap = 0) ∧
    (∀ a, ao = some a → (0 < n → a.spot = none) ∧ ∀ j u, xs[j]? = some u → w.cell? ⟨a.block, a.off + j, none⟩ = some u)

theorem Sl.of_own {w : World} {base : Nat} {e : TypeId} {sz : Nat} {v : Value} {n : Nat} {xs : List Value} (h : w.ownsRow base e sz v n xs) : Sl w sz v n xs := by
  refine ⟨h.1, ?_⟩
  rcases h.2 with ⟨rfl, rfl⟩ | ⟨g, cap, cur, rfl, _, hg, hnc, hcm, _, htake⟩
  · exact ⟨none, 0, rfl, Nat.le_refl _, Nat.zero_le _, fun _ => rfl, fun a h => by cases h⟩
  · refine ⟨some ⟨g, 0, none⟩, cap, rfl, hnc, hcm, fun h => (by cases h), fun a ha => ?_⟩
    obtain rfl := Option.some.inj ha
    refine ⟨fun _ => rfl, fun j u hu => ?_⟩
    have := h.cells (g := g) rfl j u hu
    rwa [show (⟨g, 0, none⟩ : Addr).add j = ⟨g, 0 + j, none⟩ by unfold Addr.add; split <;> simp_all] at this

theorem Sl.kept {w w' : World} {sz : Nat} {v : Value} {n : Nat} {xs : List Value} (h : Sl w sz v n xs) {row : Option Nat} (hg : w.grownBy w' row) (hne : v.ownBlock = none ∨ v.ownBlock ≠ row) : Sl w' sz v n xs := by
  obtain ⟨hl, ao, cap, rfl, h1, h2, h3, h4⟩ := h
  refine ⟨hl, ao, cap, rfl, h1, h2, h3, fun a ha => ?_⟩
  obtain ⟨hs, hc⟩ := h4 a ha
  refine ⟨hs, fun j u hu => ?_⟩
  subst ha
  exact hg.cell (hc j u hu) (by simpa [Value.ownBlock] using hne)
theorem Sl.below {w w' : World} {sz : Nat} {v : Value} {n : Nat} {xs : List Value} (h : Sl w sz v n xs) {B : Nat} (hb : Below B w w') (hv : ∀ k, v.ownBlock = some k → k < B) : Sl w' sz v n xs := by
  obtain ⟨hl, ao, cap, rfl, h1, h2, h3, h4⟩ := h
  refine ⟨hl, ao, cap, rfl, h1, h2, h3, fun a ha => ?_⟩
  obtain ⟨hs, hc⟩ := h4 a ha
  refine ⟨hs, fun j u hu => ?_⟩
  subst ha
  exact (hb.cell (p := ⟨a.block, a.off + j, none⟩) (hv _ (by simp [Value.ownBlock]))).trans (hc j u hu)
/-- the block that a slice that is not empty reads -/
def lnV : Value → Nat
  | .slice _ n _ => n
  | _ => 0
def fpT (v : Value) (k : Nat) : Prop := v.ownBlock = some k ∧ 0 < lnV v
theorem fpT_nil (k : Nat) : ¬ fpT (.slice none 0 0) k := fun h => by simp [fpT, Value.ownBlock] at h
theorem Sl.empty {w w' : World} {sz : Nat} {v : Value} {n : Nat} {xs : List Value} (h : Sl w sz v n xs) (hn : n = 0) : Sl w' sz v n xs := by
  obtain ⟨hl, ao, cap, rfl, h1, h2, h3, h4⟩ := h
  subst hn
  obtain rfl : xs = [] := List.eq_nil_of_length_eq_zero (by simpa using hl)
  exact ⟨hl, ao, cap, rfl, h1, h2, h3, fun a ha => ⟨(h4 a ha).1, fun j u hu => by simp at hu⟩⟩
theorem Sl.ln {w : World} {sz : Nat} {v : Value} {n : Nat} {xs : List Value} (h : Sl w sz v n xs) : lnV v = n := by obtain ⟨_, ao, cap, rfl, _⟩ := h; rfl
theorem Sl.belowT {w w' : World} {sz : Nat} {v : Value} {n : Nat} {xs : List Value} (h : Sl w sz v n xs) {B : Nat} (hb : Below B w w') (hv : ∀ k, fpT v k → k < B) : Sl w' sz v n xs := by
  rcases Nat.eq_zero_or_pos n with hn | hn
  · exact h.empty hn
  · exact h.below hb fun k hk => hv k ⟨hk, by rw [h.ln]; exact hn⟩
theorem Sl.keptT {w w' : World} {sz : Nat} {v : Value} {n : Nat} {xs : List Value} (h : Sl w sz v n xs) {row : Option Nat} (hg : w.grownBy w' row) (hne : ∀ k, fpT v k → row ≠ some k) : Sl w' sz v n xs := by
  rcases Nat.eq_zero_or_pos n with hn | hn
  · exact h.empty hn
  · refine h.kept hg ?_
    cases hv : v.ownBlock with
    | none => exact .inl rfl
    | some k => exact .inr fun e => hne k ⟨hv, by rw [h.ln]; exact hn⟩ e.symm
theorem Sl.nil (w : World) (sz : Nat) : Sl w sz (.slice none 0 0) 0 [] :=
  ⟨by simp, none, 0, rfl, Nat.le_refl _, Nat.zero_le _, fun _ => rfl, fun a h => by cases h⟩
/-- below the heap's end: where something is read -/
theorem Sl.lt {w : World} {sz : Nat} {v : Value} {n : Nat} {xs : List Value} (h : Sl w sz v n xs) (hx : xs ≠ []) : ∀ k, v.ownBlock = some k → k < w.heap.size := by
  obtain ⟨hl, ao, cap, rfl, h1, h2, h3, h4⟩ := h
  intro k hk
  cases ao with
  | none => simp [Value.ownBlock] at hk
  | some a =>
    simp [Value.ownBlock] at hk
    subst hk
    obtain ⟨u, hu⟩ : ∃ u, xs[0]? = some u := by cases xs with | nil => exact absurd rfl hx | cons x l => exact ⟨x, rfl⟩
    have := block_lt_of_cell ((h4 a rfl).2 0 u hu)
    exact this
theorem Sl.shape {w : World} {sz : Nat} {v : Value} {n : Nat} {xs : List Value} (h : Sl w sz v n xs) : ∃ ao cap, v = .slice ao n cap ∧ n ≤ cap ∧ cap ≤ 9223372036854775807 := by
  obtain ⟨hl, ao, cap, rfl, h1, h2, _⟩ := h
  exact ⟨ao, cap, rfl, h1, h2⟩
/-- the cell of one element -/
theorem Sl.at {w : World} {sz : Nat} {ao : Option Addr} {n cap m : Nat} {xs : List Value} (h : Sl w sz (.slice ao n cap) m xs) (j : Nat) (hj : j < xs.length) :
    ∃ b off, ao = some ⟨b, off, none⟩ ∧ ∀ i (hi : i < xs.length), w.cell? ⟨b, off + i, none⟩ = some xs[i] := by
  obtain ⟨hl, ao', cap', hv, h1, h2, h3, h4⟩ := h
  simp only [Value.slice.injEq] at hv
  obtain ⟨rfl, rfl, rfl⟩ := hv
  cases ao with
  | none =>
    have := h3 rfl
    have : n = 0 := by omega
    subst this
    simp at hl
    subst hl
    simp at hj
  | some a =>
    obtain ⟨b, off, spot⟩ := a
    obtain ⟨hs, hc⟩ := h4 _ rfl
    have hs := hs (by rcases Nat.eq_zero_or_pos n with rfl | h; · rw [Nat.zero_mul] at hl; omega
                      · exact h)
    simp at hs
    subst hs
    exact ⟨b, off, rfl, fun i hi => hc i _ (List.getElem?_eq_getElem hi)⟩
/-- the cells of a slice, by the address it has -/
theorem Sl.rd {w : World} {sz : Nat} {ad : Addr} {n cap : Nat} {xs : List Value} (h : Sl w sz (.slice (some ad) n cap) n xs) : ∀ j u, xs[j]? = some u → w.cell? (ad.add j) = some u := by
  intro j u hu
  have hj := (List.getElem?_eq_some_iff.1 hu).1
  obtain ⟨b, off, e, hc⟩ := h.at j hj
  obtain rfl := Option.some.inj e
  rw [Addr.add_lit, hc j hj, ← hu, List.getElem?_eq_getElem hj]

/-- THE APPEND of a slice, whatever it is, to an owned one -/
theorem run_app {P : Program} {t e : TypeId} {z : Value} {size bytes : Nat} (E : ET P t e z size bytes) (ty : TypeId) {w : World} {v : Value} {n : Nat} {xs : List Value} (hown : Own w e size v n xs)
    {sv : Value} {m : Nat} {news : List Value} (hs : Sl w size sv m news) (h1 : news.all Value.oneCell' = true) (h63 : n + m ≤ 1099511627776) :
    ∃ v' w', (Builtin.append_ #[t, t] ty #[v, sv]).run P w = .ok v' w' ∧ Own w' e size v' (n + m) (xs ++ news) ∧ Step w v w' v' := by
  obtain ⟨i, hi, hz, rfl, hby⟩ := E.inf
  have hb := E.bnd
  have hsl := hs
  obtain ⟨hl, ao, cap, rfl, hm1, hm2, h3, h4⟩ := hs
  cases ao with
  | none =>
    obtain rfl := h3 rfl
    obtain rfl : m = 0 := by omega
    obtain rfl : news = [] := List.eq_nil_of_length_eq_zero (by simpa using hl)
    refine ⟨v, w, run_append_owned_none (P := P) w 0 t ty e i i.size E.und hi v n xs hown, by simpa using hown, Step.refl _ _⟩
  | some ad =>
    have hc' := hsl.rd
    have h1' := List.all_eq_true.1 h1
    have hbytes : (n + m) * bytes ≤ 140737488355328 := by
      have : (n + m) * bytes ≤ 1099511627776 * 128 := Nat.mul_le_mul h63 hb
      omega
    obtain ⟨v', w', hr, h2, h3', _⟩ := run_append_own (P := P) w 0 t ty e i z i.size bytes E.und hi hz rfl hby E.zsz E.pos v n xs hown ad m cap news hl hc' h1' (by unfold maxLen; omega) hbytes (Nat.zero_le _)
    refine ⟨v', w', hr, h2, h3', ?_⟩
    have hl2 : xs.length = n * i.size := hown.1
    rcases hown.2 with ⟨rfl, rfl⟩ | ⟨g, cap', cur, rfl, hbg, hg, hnc, hcm, hcs, htake⟩
    · by_cases hm0 : m = 0
      · subst hm0
        obtain rfl : news = [] := List.eq_nil_of_length_eq_zero (by simpa using hl)
        obtain rfl : xs = [] := List.eq_nil_of_length_eq_zero (by simpa using hl2)
        rcases h2.2 with ⟨rfl, _⟩ | ⟨g, cap', cur, rfl, _⟩
        · intro k hk; simp [Value.ownBlock] at hk
        · exfalso
          simp [Builtin.append_, run_underlying E.und, sizeOf, typeInfo, hi, Builtin.lenOf, Builtin.firstCells, loadCells, loadCellsFrom] at hr
      · have hr2 := run_append_nil (P := P) w t ty e i z E.und hi hz ad m cap news hl hc' (by omega) (by omega) (by subst hby; simp only [Nat.zero_add] at hbytes; omega)
        rw [hr2] at hr
        simp only [Result.ok.injEq] at hr
        obtain ⟨rfl, _⟩ := hr
        intro k hk
        simp [Value.ownBlock] at hk
        exact .inr (by omega)
    · by_cases hroom : n + m ≤ cap'
      · have hr2 := run_append_room (P := P) w t ty e i E.und hi g n cap' cur hg ad m cap news hl hc' h1' hroom (by rw [hl, hcs, ← Nat.add_mul]; exact Nat.mul_le_mul_right _ hroom)
        rw [hr2] at hr
        simp only [Result.ok.injEq] at hr
        obtain ⟨rfl, _⟩ := hr
        intro k hk
        exact .inl hk
      · have holds : ∀ j u, xs[j]? = some u → w.cell? ((⟨g, 0, none⟩ : Addr).add j) = some u := hown.cells (g := g) rfl
        have hr2 := run_append_grow (P := P) w t ty e i z E.und hi hz ⟨g, 0, none⟩ n cap' xs hl2 holds ad m cap news hl hc' (by omega) (by omega) (growslice_fits (by omega) (by subst hby; exact hbytes))
        rw [hr2] at hr
        simp only [Result.ok.injEq] at hr
        obtain ⟨rfl, _⟩ := hr
        intro k hk
        simp [Value.ownBlock] at hk
        exact .inr (by omega)

/-- the same at an operation -/
theorem wpList_app {P : Program} {t e : TypeId} {z : Value} {size bytes : Nat} (E : ET P t e z size bytes) {w : World} {ops : Array Oper} {rest : List Oper} {o : Oper} {a : Act} {Q : Exit → Act → World → Prop}
    (hgd : o.guard = none) (s x : Operand) (ho : o.op = .call { callee := .builtin .append, args := #[s, x], argTypes := #[t, t] })
    (v : Value) (n : Nat) (xs : List Value) (hs : a.eval s = v) (hown : Own w e size v n xs)
    (sv : Value) (m : Nat) (news : List Value) (hx : a.eval x = sv) (hsl : Sl w size sv m news) (h1 : news.all Value.oneCell' = true) (h63 : n + m ≤ 1099511627776)
    (h : ∀ v' w', Own w' e size v' (n + m) (xs ++ news) → Step w v w' v' → wpList P ops Q rest (a.put o.dst v') w') :
    wpList P ops Q (o :: rest) a w := by
  refine wpList_plain hgd fun K hK => ?_
  obtain ⟨v', w', hr, h2, h3⟩ := run_app E o.type hown hsl h1 h63
  unfold Oper.wp execOp
  simp only [ho, resolve, invoke, builtin, Sem.run_bind, Sem.run_pure, Result.andThen_ok, List.map_toArray, List.map_cons, List.map_nil, hs, hx, hr]
  exact hK _ _ (h v' w' h2 h3)

/-- append of cells that were just laid in a new block -/
theorem wpList_push {P : Program} {t e : TypeId} {z : Value} {size bytes : Nat} (E : ET P t e z size bytes) {w : World} {ops : Array Oper} {rest : List Oper} {o : Oper} {a : Act} {Q : Exit → Act → World → Prop}
    (hgd : o.guard = none) (s x : Operand) (ho : o.op = .call { callee := .builtin .append, args := #[s, x], argTypes := #[t, t] })
    (v : Value) (n : Nat) (xs : List Value) (hs : a.eval s = v) (hown : Own w e size v n xs)
    (c : List Value) (m : Nat) (hx : a.eval x = .slice (some ⟨w.heap.size, 0, none⟩) m m) (hl : c.length = m * size) (h1 : c.all Value.oneCell' = true)
    (h63 : n + m ≤ 1099511627776)
    (h : ∀ v' w', Own w' e size v' (n + m) (xs ++ c) → Step w v w' v' → wpList P ops Q rest (a.put o.dst v') w') :
    wpList P ops Q (o :: rest) a (w.alloc (.cells c.toArray e)) := by
  refine wpList_app E hgd s x ho v n xs hs (hown.alloc _) _ m c hx ⟨hl, some ⟨w.heap.size, 0, none⟩, m, rfl, Nat.le_refl _, by unfold maxLen; omega, fun h => (by cases h), fun ad had => ?_⟩ h1 h63 fun v' w' h2 h3 => h v' w' h2 h3.alloc
  obtain rfl := Option.some.inj had
  refine ⟨fun _ => rfl, fun j u hu => ?_⟩
  rw [Nat.zero_add, World.cell?_alloc_at _ _ _ _ rfl]
  simpa using hu

/-- append of a string's bytes -/
theorem wpList_appstr {P : Program} {t u e : TypeId} (E : ET P t e (.int .u8 0) 1 1) (hu : P.underlying u = some .string) {w : World} {ops : Array Oper} {rest : List Oper} {o : Oper} {a : Act} {Q : Exit → Act → World → Prop}
    (hgd : o.guard = none) (s x : Operand) (ho : o.op = .call { callee := .builtin .append, args := #[s, x], argTypes := #[t, u] })
    (v : Value) (n : Nat) (xs : List Value) (hs : a.eval s = v) (hown : Own w e 1 v n xs) (str : ByteArray) (hx : a.eval x = .string str) (h63 : n + str.size ≤ 1099511627776)
    (h : ∀ v' w', Own w' e 1 v' (n + str.size) (xs ++ Lib.strCells str) → Step w v w' v' → wpList P ops Q rest (a.put o.dst v') w') :
    wpList P ops Q (o :: rest) a w := by
  refine wpList_plain hgd fun K hK => ?_
  obtain ⟨i, hi, hz, hsz, hby⟩ := E.inf
  obtain ⟨v', w', hr, h2, h3, h4⟩ := Lib.run_append_own_string (P := P) w 0 t u o.type e i E.und hu hi hz hsz hby v n xs hown str (by unfold maxLen; omega) (by omega) (Nat.zero_le _)
  have h5 : Step w v w' v' := by
    refine ⟨h3, ?_⟩
    have hl2 : xs.length = n := by simpa using hown.1
    rcases hown.2 with ⟨rfl, rfl⟩ | ⟨g, cap', cur, rfl, hbg, hg, hnc, hcm, hcs, htake⟩
    · by_cases hm0 : str.size = 0
      · have := h4.2 ⟨rfl, hm0⟩
        subst this
        intro k hk; simp [Value.ownBlock] at hk
      · have hr2 := run_append_nil_string (P := P) w t u o.type e i (.int .u8 0) E.und hu hi hz str (by omega) (by omega) (by rw [hby]; omega)
        rw [hr2] at hr
        simp only [Result.ok.injEq] at hr
        obtain ⟨rfl, _⟩ := hr
        intro k hk
        simp [Value.ownBlock] at hk
        exact .inr (by omega)
    · by_cases hroom : n + str.size ≤ cap'
      · have hr2 := Lib.run_append_room_string (P := P) w t u o.type e i E.und hu hi hsz g n cap' cur hg str hroom (by omega)
        rw [hr2] at hr
        simp only [Result.ok.injEq] at hr
        obtain ⟨rfl, _⟩ := hr
        intro k hk
        exact .inl hk
      · have holds : ∀ j u, xs[j]? = some u → w.cell? ((⟨g, 0, none⟩ : Addr).add j) = some u := hown.cells (g := g) rfl
        have hr2 := Lib.run_append_grow_string (P := P) w t u o.type e i (.int .u8 0) E.und hu hi hz ⟨g, 0, none⟩ n cap' xs (by rw [hsz]; omega) holds str (by omega) (by omega) (growslice_fits (by omega) (by rw [hby]; omega))
        rw [hr2] at hr
        simp only [Result.ok.injEq] at hr
        obtain ⟨rfl, _⟩ := hr
        intro k hk
        simp [Value.ownBlock] at hk
        exact .inr (by omega)
  unfold Oper.wp execOp
  simp only [ho, resolve, invoke, builtin, Sem.run_bind, Sem.run_pure, Result.andThen_ok, List.map_toArray, List.map_cons, List.map_nil, hs, hx, hr]
  exact hK _ _ (h v' w' h2 h5)

/-! ### integers as bytes -/
def leb (u : Nat) : List Nat := if u < 128 then [u] else (u % 128 + 128) :: leb (u / 128)
termination_by u
decreasing_by omega
def zig (n : Int) : Nat := if n < 0 then (-2 * n - 1).toNat else (2 * n).toNat
def enc (n : Int) : List Nat := leb (zig n)
theorem leb_small {u : Nat} (h : u < 128) : leb u = [u] := by rw [leb, if_pos h]
theorem leb_big {u : Nat} (h : ¬ u < 128) : leb u = (u % 128 + 128) :: leb (u / 128) := by rw [leb, if_neg h]
theorem leb_len (k u : Nat) (h : u < 128 ^ k) (hk : 0 < k) : (leb u).length ≤ k := by
  induction k generalizing u with
  | zero => omega
  | succ k ih =>
    by_cases hu : u < 128
    · rw [leb_small hu]; simp
    · rw [leb_big hu]
      have : 0 < k := by
        rcases Nat.eq_zero_or_pos k with rfl | h'
        · simp at h; omega
        · exact h'
      have := ih (u / 128) (by rw [Nat.pow_succ] at h; omega) this
      simp; omega
theorem zig_lt {n : Int} (h0 : -9223372036854775808 ≤ n) (h1 : n ≤ 9223372036854775807) : zig n < 18446744073709551616 := by
  unfold zig; split <;> omega
theorem enc_len {n : Int} (h0 : -9223372036854775808 ≤ n) (h1 : n ≤ 9223372036854775807) : (enc n).length ≤ 10 := by
  have := zig_lt h0 h1
  exact leb_len 10 _ (Nat.lt_of_lt_of_le this (by decide)) (by decide)
theorem leb_pos (u : Nat) : 0 < (leb u).length := by
  by_cases hu : u < 128
  · rw [leb_small hu]; simp
  · rw [leb_big hu]; simp
theorem leb_byte (u : Nat) : ∀ b ∈ leb u, b < 256 := by
  induction u using leb.induct with
  | case1 u h => rw [leb_small h]; simp; omega
  | case2 u h ih =>
    rw [leb_big h]
    intro b hb
    simp at hb
    rcases hb with rfl | hb
    · omega
    · exact ih b hb
theorem enc_byte (n : Int) : ∀ b ∈ enc n, b < 256 := leb_byte _
theorem u64_not (a : Nat) (ha : a < 18446744073709551616) : bits .xor .u64 IntKind.u64.max (a : Int) = ((18446744073709551615 - a : Nat) : Int) := by
  have e : IntKind.u64.max = ((18446744073709551615 : Nat) : Int) := by decide
  rw [e, u64_xor_nat _ _ (by decide) ha]
  congr 1
  have h := BitVec.toNat_not (x := BitVec.ofNat 64 a)
  rw [← BitVec.allOnes_xor, BitVec.toNat_xor, BitVec.toNat_allOnes, BitVec.toNat_ofNat, Nat.mod_eq_of_lt (by omega)] at h
  simpa using h
/-- a number as a uint64, shifted and turned: its zigzag -/
theorem u64_of (n : Int) (h0 : -9223372036854775808 ≤ n) (h1 : n ≤ 9223372036854775807) : ∃ m m2 : Nat, IntKind.u64.wrap n = (m : Int) ∧ IntKind.u64.wrap ((m : Int) * 2) = (m2 : Int) ∧
    (0 ≤ n → m2 = zig n) ∧ (n < 0 → bits BinOp.xor IntKind.u64 IntKind.u64.max (m2 : Int) = (zig n : Nat)) := by
  by_cases hn : n < 0
  · refine ⟨(n + 18446744073709551616).toNat, (n*2 + 18446744073709551616).toNat, by rw [IntKind.wrap_u64]; omega, by rw [IntKind.wrap_u64]; omega, fun h => by omega, fun _ => ?_⟩
    rw [u64_not _ (by omega)]
    unfold zig; rw [if_pos hn]; omega
  · refine ⟨n.toNat, (2 * n).toNat, by rw [IntKind.wrap_u64]; omega, by rw [IntKind.wrap_u64]; omega, fun h => by unfold zig; rw [if_neg hn], fun h => absurd h hn⟩
end

/-! ## Region -/
section
open Go.RowKit

/-- what is known of a slot; it stays known while memory grows -/
structure Sp where
  on : World → Value → Prop
  mono : ∀ w w' v, w.grownBy w' none → on w v → on w' v
def Sp.is (v : Value) : Sp := ⟨fun _ x => x = v, fun _ _ _ _ h => h⟩
def Sp.any : Sp := ⟨fun _ _ => True, fun _ _ _ _ h => h⟩
def At (L : List Sp) (t : Nat) (w : World) (v : Value) : Prop := (L.getD t Sp.any).on w v

/-- what an operation says of its value and of the world behind it -/
def OpSays (P : Program) (ops : Array Oper) (o : Oper) (a : Act) (w : World) (R : Value → World → Prop) : Prop :=
  if Region.wanted o (yielded ops a.tmps) then
    match (execOp a.eval o).run P w with
    | .ok (.value v) w' => R v w'
    | .ok .skip w' => R undef w'
    | .ok (.enter f args) w' => Calls P f args w' fun e w'' => ∃ v, e = .returned v ∧ R v w''
    | _ => False
  else R undef w

theorem OpSays.wpOp {P : Program} {ops : Array Oper} {Q : Exit → Act → World → Prop} {i : Nat} {o : Oper} {a : Act} {w : World} {R : Value → World → Prop} {K : Act → World → Prop} (hi : ops[i]? = some o)
    (h : OpSays P ops o a w R) (hk : ∀ v w', R v w' → K (a.put o.dst v) w') : wpOp P ops Q i K a w := by
  unfold Go.wpOp
  simp only [hi]
  unfold OpSays at h
  split
  · rename_i hw
    rw [if_pos hw] at h
    refine .inl ?_
    unfold Oper.wp
    generalize (execOp a.eval o).run P w = r at *
    cases r with
    | ok n w' =>
      cases n <;> simp only [Oper.upon] at h ⊢
      all_goals first
        | exact h.elim
        | exact hk _ _ h
        | exact h.mono fun e w'' ⟨v, he, hr⟩ => by subst he; exact hk _ _ hr
    | halt x w' => cases x <;> exact h.elim
  · rename_i hw
    rw [if_neg hw] at h
    exact hk _ _ h

/-- the closed part: each slot is written once, whoever reads it waits for its writer, edges lead back -/
def regB (ops : Array Oper) (n : Nat) : Bool :=
  (List.range ops.size).all fun i => match ops[i]? with
    | none => true
    | some o =>
      (o.after.toList.all fun e => decide (e.on < i)) &&
      (match o.dst with | none => true | some d => decide (d < n)) &&
      (List.range ops.size).all fun j => match ops[j]? with
        | none => true
        | some oj => match oj.dst with
          | none => true
          | some d => (i == j || o.dst != some d) && (!(o.looksAt ops).contains d || o.after.toList.any fun e => e.on == j && Region.binds .any e)

theorem regB_spec {ops : Array Oper} {n : Nat} (h : regB ops n = true) {i : Nat} {o : Oper} (hi : ops[i]? = some o) :
    (∀ e ∈ o.after.toList, e.on < i) ∧ (∀ d, o.dst = some d → d < n) ∧
    (∀ j oj d, ops[j]? = some oj → oj.dst = some d → (i = j ∨ o.dst ≠ some d) ∧ (d ∈ o.looksAt ops → ∃ e ∈ o.after.toList, e.on = j ∧ Region.binds .any e = true)) := by
  have hlt : i < ops.size := (Array.getElem?_eq_some_iff.1 hi).1
  have h1 := List.all_eq_true.1 h i (List.mem_range.2 hlt)
  simp only [hi, Bool.and_eq_true] at h1
  obtain ⟨⟨h2, h3⟩, h4⟩ := h1
  refine ⟨fun e he => by simpa using List.all_eq_true.1 h2 e he, fun d hd => by simpa [hd] using h3, fun j oj d hj hd => ?_⟩
  have hjl : j < ops.size := (Array.getElem?_eq_some_iff.1 hj).1
  have h5 := List.all_eq_true.1 h4 j (List.mem_range.2 hjl)
  simp only [hj, hd, Bool.and_eq_true, Bool.or_eq_true, beq_iff_eq, bne_iff_ne, Bool.not_eq_true'] at h5
  refine ⟨h5.1, fun hl => ?_⟩
  rcases h5.2 with h6 | h6
  · rw [List.contains_iff_mem.2 hl] at h6; cases h6
  · obtain ⟨e, he, h7⟩ := List.any_eq_true.1 h6
    simp only [Bool.and_eq_true, beq_iff_eq] at h7
    exact ⟨e, he, h7⟩

theorem getD_put (a : Act) (d : Option Tmp) (v : Value) (t : Nat) (hd : ∀ k, d = some k → k < a.tmps.size) : (a.put d v).tmps.getD t undef = if d = some t then v else a.tmps.getD t undef := by
  cases d with
  | none => simp [Act.put]
  | some k =>
    have hk := hd k rfl
    simp only [Act.put, Option.some.injEq, Array.getD_eq_getD_getElem?, Array.getElem?_setIfInBounds]
    by_cases e : k = t
    · subst e; simp [hk]
    · simp [e]

theorem region_rel {P : Program} {Q : Exit → Act → World → Prop} {id : Nat} {ops : Array Oper} {a0 : Act} {w0 : World} (hm : P.follows .mixedOrders = true) (n : Nat) (L : List Sp) (hn : a0.tmps.size = n) (hB : regB ops n = true)
    (h0 : ∀ t, t < n → (∀ (i : Nat) (o : Oper), ops[i]? = some o → o.dst ≠ some t) → At L t w0 (a0.tmps.getD t undef))
    (ob : ∀ (i : Nat) (o : Oper), ops[i]? = some o → ∀ a w, w0.grownBy w none → (∀ t ∈ o.looksAt ops, t < n → At L t w (a.tmps.getD t undef)) → a.tmps.size = n →
      OpSays P ops o a w fun v w' => w.grownBy w' none ∧ ∀ d, o.dst = some d → At L d w' v)
    (hQ : ∀ a w, w0.grownBy w none → a.defers = a0.defers → a.tmps.size = n → (∀ t, t < n → At L t w (a.tmps.getD t undef)) → Q .normal a w) :
    (Code.region id ops true).wp P Q a0 w0 := by
  refine wp_region_any hm ?_
  have key : ∀ (fuel : Nat) (listed : Array Bool) (a : Act) (w : World), listed.size = ops.size → (∀ l : List Nat, l.Nodup → (∀ i ∈ l, i < ops.size ∧ listed.getD i true = false) → l.length ≤ fuel) →
      w0.grownBy w none → a.defers = a0.defers → a.tmps.size = n →
      (∀ t, t < n → ((∀ (i : Nat) (o : Oper), ops[i]? = some o → o.dst ≠ some t) ∨ ∃ (i : Nat) (o : Oper), ops[i]? = some o ∧ o.dst = some t ∧ listed.getD i false = true) → At L t w (a.tmps.getD t undef)) →
      wpAny P .any ops Q fuel listed a w := by
    intro fuel
    have done : ∀ (listed : Array Bool) (a : Act) (w : World), listed.size = ops.size → Region.ready .any ops listed = [] → w0.grownBy w none → a.defers = a0.defers → a.tmps.size = n →
      (∀ t, t < n → ((∀ (i : Nat) (o : Oper), ops[i]? = some o → o.dst ≠ some t) ∨ ∃ (i : Nat) (o : Oper), ops[i]? = some o ∧ o.dst = some t ∧ listed.getD i false = true) → At L t w (a.tmps.getD t undef)) → Q .normal a w := by
      intro listed a w hsz hr hg hd has hk
      have all : ∀ i, i < ops.size → listed.getD i false = true := by
        intro i
        induction i using Nat.strongRecOn with
        | _ i ih =>
          intro hi
          cases hl : listed.getD i false with
          | true => rfl
          | false =>
            exfalso
            have ho : ops[i]? = some ops[i] := Array.getElem?_eq_getElem hi
            have : i ∈ Region.ready .any ops listed := mem_ready.2 ⟨by
                have : i < listed.size := by omega
                simp only [Array.getD_eq_getD_getElem?, Array.getElem?_eq_getElem this, Option.getD_some] at hl ⊢
                exact hl, ops[i], ho, fun e he _ => by
                have := (regB_spec hB ho).1 e (by simpa using he)
                exact ih e.on this (by omega)⟩
            rw [hr] at this
            cases this
      refine hQ a w hg hd has fun t ht => hk t ht ?_
      by_cases hex : ∃ (i : Nat) (o : Oper), ops[i]? = some o ∧ o.dst = some t
      · obtain ⟨i, o, hi, hd⟩ := hex
        exact .inr ⟨i, o, hi, hd, all i (Array.getElem?_eq_some_iff.1 hi).1⟩
      · exact .inl fun i o hi hd => hex ⟨i, o, hi, hd⟩
    induction fuel with
    | zero =>
      intro listed a w hsz hf hg hd has hk
      have hr : Region.ready .any ops listed = [] := by
        cases hr : Region.ready .any ops listed with
        | nil => rfl
        | cons i r =>
          exfalso
          have hi : i ∈ Region.ready .any ops listed := by rw [hr]; exact List.mem_cons_self
          obtain ⟨h1, o, h2, _⟩ := mem_ready.1 hi
          have := hf [i] (by simp) (fun k hk => by simp at hk; subst hk; exact ⟨(Array.getElem?_eq_some_iff.1 h2).1, h1⟩)
          simp at this
      exact ⟨hr, done listed a w hsz hr hg hd has hk⟩
    | succ fuel ih =>
      intro listed a w hsz hf hg hd has hk
      refine ⟨fun hr => done listed a w hsz hr hg hd has hk, fun i hi => ?_⟩
      obtain ⟨h1, o, ho, hready⟩ := mem_ready.1 hi
      obtain ⟨s1, s2, s3⟩ := regB_spec hB ho
      have hlt : i < ops.size := (Array.getElem?_eq_some_iff.1 ho).1
      refine OpSays.wpOp ho (ob i o ho a w hg (fun t ht htn => hk t htn ?_) has) ?_
      · by_cases hex : ∃ (j : Nat) (oj : Oper), ops[j]? = some oj ∧ oj.dst = some t
        · obtain ⟨j, oj, hj, hdj⟩ := hex
          obtain ⟨e, he, rfl, hb⟩ := (s3 j oj t hj hdj).2 ht
          exact .inr ⟨e.on, oj, hj, hdj, hready e (by simpa using he) hb⟩
        · exact .inl fun j oj hj hdj => hex ⟨j, oj, hj, hdj⟩
      · rintro v w' ⟨hg', hv⟩
        refine ih _ _ _ (by simpa using hsz) ?_ (grown_trans hg hg') (by cases ho' : o.dst <;> simp [Act.put, hd]) (by cases ho' : o.dst <;> simp [Act.put, has]) ?_
        · intro l hnd hl
          have hil : i ∉ l := by
            intro hmem
            have := (hl i hmem).2
            rw [Array.getD_eq_getD_getElem?, Array.getElem?_setIfInBounds_self_of_lt (by omega)] at this
            cases this
          have := hf (i :: l) (List.nodup_cons.2 ⟨hil, hnd⟩) (fun k hk => by
            rcases List.mem_cons.1 hk with rfl | hk
            · exact ⟨hlt, h1⟩
            · have h2 := hl k hk
              have hne : i ≠ k := fun e => hil (e ▸ hk)
              rw [getD_set_ne true hne] at h2
              exact h2)
          simpa using this
        · intro t htn hor
          rw [getD_put a o.dst v t (fun k hk => has ▸ s2 k hk)]
          by_cases hdt : o.dst = some t
          · rw [if_pos hdt]
            exact hv t hdt
          · rw [if_neg hdt]
            refine (L.getD t Sp.any).mono _ _ _ hg' (hk t htn ?_)
            rcases hor with h | ⟨j, oj, hj, hdj, hlj⟩
            · exact .inl h
            · refine .inr ⟨j, oj, hj, hdj, ?_⟩
              have hne : i ≠ j := fun e => hdt (by subst e; rw [ho] at hj; obtain rfl := Option.some.inj hj; exact hdj)
              rwa [getD_set_ne false hne] at hlj
  refine key ops.size _ a0 { w0 with drawn := w0.drawn + 1 } (by simp) ?_ ⟨rfl, rfl, rfl, Nat.le_refl _, fun _ _ _ => rfl⟩ rfl hn ?_
  · intro l hnd hl
    have : l ⊆ List.range ops.size := fun k hk => List.mem_range.2 (hl k hk).1
    have := List.Nodup.length_le_of_subset hnd this
    simpa using this
  · intro t ht hor
    refine (L.getD t Sp.any).mono w0 _ _ ⟨rfl, rfl, rfl, Nat.le_refl _, fun _ _ _ => rfl⟩ (h0 t ht ?_)
    rcases hor with h | ⟨i, o, hi, _, hl⟩
    · exact h
    · exfalso
      have : i < ops.size := (Array.getElem?_eq_some_iff.1 hi).1
      rw [Array.getD_eq_getD_getElem?, Array.getElem?_replicate, if_pos this] at hl
      cases hl
end

/-! ## Region2 -/
section
open Go.RowKit

/-- the same where operations may write: J holds throughout, D i is what operation i leaves in memory; each step keeps what is known of the other slots and operations -/
theorem region_gen {P : Program} {Q : Exit → Act → World → Prop} {id : Nat} {ops : Array Oper} {a0 : Act} {w0 : World} (hm : P.follows .mixedOrders = true) (n : Nat) (L : Nat → World → Value → Prop) (J : World → Prop) (D : Nat → World → Prop) (hJ : J w0.drew) (hn : a0.tmps.size = n) (hB : regB ops n = true)
    (h0 : ∀ t, t < n → (∀ (i : Nat) (o : Oper), ops[i]? = some o → o.dst ≠ some t) → L t w0.drew (a0.tmps.getD t undef))
    (ob : ∀ (i : Nat) (o : Oper), ops[i]? = some o → ∀ a w, J w → (∀ t ∈ o.looksAt ops, t < n → L t w (a.tmps.getD t undef)) → a.tmps.size = n →
      OpSays P ops o a w fun v w' => J w' ∧ (∀ t x, L t w x → L t w' x) ∧ (∀ j, j ≠ i → D j w → D j w') ∧ D i w' ∧ ∀ d, o.dst = some d → L d w' v)
    (hQ : ∀ a w, J w → a.defers = a0.defers → a.tmps.size = n → (∀ t, t < n → L t w (a.tmps.getD t undef)) → (∀ i, i < ops.size → D i w) → Q .normal a w) :
    (Code.region id ops true).wp P Q a0 w0 := by
  refine wp_region_any hm ?_
  have key : ∀ (fuel : Nat) (listed : Array Bool) (a : Act) (w : World), listed.size = ops.size → (∀ l : List Nat, l.Nodup → (∀ i ∈ l, i < ops.size ∧ listed.getD i true = false) → l.length ≤ fuel) →
      J w → a.defers = a0.defers → a.tmps.size = n →
      (∀ t, t < n → ((∀ (i : Nat) (o : Oper), ops[i]? = some o → o.dst ≠ some t) ∨ ∃ (i : Nat) (o : Oper), ops[i]? = some o ∧ o.dst = some t ∧ listed.getD i false = true) → L t w (a.tmps.getD t undef)) → (∀ i, i < ops.size → listed.getD i false = true → D i w) →
      wpAny P .any ops Q fuel listed a w := by
    intro fuel
    have done : ∀ (listed : Array Bool) (a : Act) (w : World), listed.size = ops.size → Region.ready .any ops listed = [] → J w → a.defers = a0.defers → a.tmps.size = n →
      (∀ t, t < n → ((∀ (i : Nat) (o : Oper), ops[i]? = some o → o.dst ≠ some t) ∨ ∃ (i : Nat) (o : Oper), ops[i]? = some o ∧ o.dst = some t ∧ listed.getD i false = true) → L t w (a.tmps.getD t undef)) → (∀ i, i < ops.size → listed.getD i false = true → D i w) → Q .normal a w := by
      intro listed a w hsz hr hg hd has hk hD
      have all : ∀ i, i < ops.size → listed.getD i false = true := by
        intro i
        induction i using Nat.strongRecOn with
        | _ i ih =>
          intro hi
          cases hl : listed.getD i false with
          | true => rfl
          | false =>
            exfalso
            have ho : ops[i]? = some ops[i] := Array.getElem?_eq_getElem hi
            have : i ∈ Region.ready .any ops listed := mem_ready.2 ⟨by
                have : i < listed.size := by omega
                simp only [Array.getD_eq_getD_getElem?, Array.getElem?_eq_getElem this, Option.getD_some] at hl ⊢
                exact hl, ops[i], ho, fun e he _ => by
                have := (regB_spec hB ho).1 e (by simpa using he)
                exact ih e.on this (by omega)⟩
            rw [hr] at this
            cases this
      refine hQ a w hg hd has (fun t ht => hk t ht ?_) (fun i hi => hD i hi (all i hi))
      by_cases hex : ∃ (i : Nat) (o : Oper), ops[i]? = some o ∧ o.dst = some t
      · obtain ⟨i, o, hi, hd⟩ := hex
        exact .inr ⟨i, o, hi, hd, all i (Array.getElem?_eq_some_iff.1 hi).1⟩
      · exact .inl fun i o hi hd => hex ⟨i, o, hi, hd⟩
    induction fuel with
    | zero =>
      intro listed a w hsz hf hg hd has hk hD
      have hr : Region.ready .any ops listed = [] := by
        cases hr : Region.ready .any ops listed with
        | nil => rfl
        | cons i r =>
          exfalso
          have hi : i ∈ Region.ready .any ops listed := by rw [hr]; exact List.mem_cons_self
          obtain ⟨h1, o, h2, _⟩ := mem_ready.1 hi
          have := hf [i] (by simp) (fun k hk => by simp at hk; subst hk; exact ⟨(Array.getElem?_eq_some_iff.1 h2).1, h1⟩)
          simp at this
      exact ⟨hr, done listed a w hsz hr hg hd has hk hD⟩
    | succ fuel ih =>
      intro listed a w hsz hf hg hd has hk hD
      refine ⟨fun hr => done listed a w hsz hr hg hd has hk hD, fun i hi => ?_⟩
      obtain ⟨h1, o, ho, hready⟩ := mem_ready.1 hi
      obtain ⟨s1, s2, s3⟩ := regB_spec hB ho
      have hlt : i < ops.size := (Array.getElem?_eq_some_iff.1 ho).1
      refine OpSays.wpOp ho (ob i o ho a w hg (fun t ht htn => hk t htn ?_) has) ?_
      · by_cases hex : ∃ (j : Nat) (oj : Oper), ops[j]? = some oj ∧ oj.dst = some t
        · obtain ⟨j, oj, hj, hdj⟩ := hex
          obtain ⟨e, he, rfl, hb⟩ := (s3 j oj t hj hdj).2 ht
          exact .inr ⟨e.on, oj, hj, hdj, hready e (by simpa using he) hb⟩
        · exact .inl fun j oj hj hdj => hex ⟨j, oj, hj, hdj⟩
      · rintro v w' ⟨hg', hkp, hkd, hdi, hv⟩
        refine ih _ _ _ (by simpa using hsz) ?_ hg' (by cases ho' : o.dst <;> simp [Act.put, hd]) (by cases ho' : o.dst <;> simp [Act.put, has]) ?_ ?_
        · intro l hnd hl
          have hil : i ∉ l := by
            intro hmem
            have := (hl i hmem).2
            rw [Array.getD_eq_getD_getElem?, Array.getElem?_setIfInBounds_self_of_lt (by omega)] at this
            cases this
          have := hf (i :: l) (List.nodup_cons.2 ⟨hil, hnd⟩) (fun k hk => by
            rcases List.mem_cons.1 hk with rfl | hk
            · exact ⟨hlt, h1⟩
            · have h2 := hl k hk
              have hne : i ≠ k := fun e => hil (e ▸ hk)
              rw [getD_set_ne true hne] at h2
              exact h2)
          simpa using this
        · intro t htn hor
          rw [getD_put a o.dst v t (fun k hk => has ▸ s2 k hk)]
          by_cases hdt : o.dst = some t
          · rw [if_pos hdt]
            exact hv t hdt
          · rw [if_neg hdt]
            refine hkp _ _ (hk t htn ?_)
            rcases hor with h | ⟨j, oj, hj, hdj, hlj⟩
            · exact .inl h
            · refine .inr ⟨j, oj, hj, hdj, ?_⟩
              have hne : i ≠ j := fun e => hdt (by subst e; rw [ho] at hj; obtain rfl := Option.some.inj hj; exact hdj)
              rwa [getD_set_ne false hne] at hlj
        · intro j hj hlj
          by_cases hij : i = j
          · subst hij; exact hdi
          · refine hkd j (fun e => hij e.symm) (hD j hj ?_)
            rwa [getD_set_ne false hij] at hlj
  refine key ops.size _ a0 w0.drew (by simp) ?_ hJ rfl hn ?_ ?_
  · intro l hnd hl
    have : l ⊆ List.range ops.size := fun k hk => List.mem_range.2 (hl k hk).1
    have := List.Nodup.length_le_of_subset hnd this
    simpa using this
  · intro t ht hor
    refine h0 t ht ?_
    rcases hor with h | ⟨i, o, hi, _, hl⟩
    · exact h
    · exfalso
      have : i < ops.size := (Array.getElem?_eq_some_iff.1 hi).1
      rw [Array.getD_eq_getD_getElem?, Array.getElem?_replicate, if_pos this] at hl
      cases hl
  · intro i hi hl
    exfalso
    rw [Array.getD_eq_getD_getElem?, Array.getElem?_replicate, if_pos hi] at hl
    cases hl
end

/-! ## Ops -/
section
open Go.RowKit

/-- bytes as a string -/
def bs (l : List Nat) : ByteArray := ⟨(l.map fun n => UInt8.ofNat n).toArray⟩
theorem bs_push (l : List Nat) (r : ByteArray) : (l.map fun n : Nat => (n : Int)).foldl (fun r n => r.push (UInt8.ofNat n.toNat)) r = ⟨r.data ++ (l.map fun n => UInt8.ofNat n).toArray⟩ := by
  induction l generalizing r with
  | nil => simp
  | cons a l ih =>
    simp only [List.map_cons, List.foldl_cons, ih]
    congr 1
    apply Array.ext'
    simp [ByteArray.push]
theorem bs_size (l : List Nat) : (bs l).size = l.length := by simp [bs, ByteArray.size]
theorem bs_append (a b : List Nat) : bs a ++ bs b = bs (a ++ b) := by
  apply ByteArray.ext
  simp [bs]
theorem strCells_bs (l : List Nat) (h : ∀ b ∈ l, b < 256) : Lib.strCells (bs l) = bv l := by
  unfold Lib.strCells bs bv
  simp only [List.map_map]
  refine List.map_congr_left fun b hb => ?_
  have := h b hb
  simp
  omega
theorem bs_inj {a b : List Nat} (ha : ∀ x ∈ a, x < 256) (hb : ∀ x ∈ b, x < 256) (h : bs a = bs b) : a = b := by
  have h1 : a.map (fun n => UInt8.ofNat n) = b.map fun n => UInt8.ofNat n := by
    have := congrArg (fun s => s.data.toList) h
    simpa [bs] using this
  have h2 := congrArg (List.map UInt8.toNat) h1
  simp only [List.map_map] at h2
  have e : ∀ l : List Nat, (∀ x ∈ l, x < 256) → l.map (UInt8.toNat ∘ fun n => UInt8.ofNat n) = l := by
    intro l hl
    conv => rhs; rw [← List.map_id l]
    refine List.map_congr_left fun x hx => ?_
    have := hl x hx
    simp
    omega
  rwa [e a ha, e b hb] at h2

theorem run_conv {P : Program} (src dst e : TypeId) (hs : P.underlying src = some (.slice e)) (he : P.underlying e = some (.int .u8)) (hd : P.underlying dst = some .string) {w : World} {v : Value} {l : List Nat} (h : Sl w 1 v l.length (bv l)) :
    (convert src dst v).run P w = .ok (.string (bs l)) w := by
  have hsl := h
  obtain ⟨hl, ao, cap, rfl, h1, h2, h3, h4⟩ := h
  rw [run_convert_bytes_string w src dst e _ _ _ hs he hd]
  cases ao with
  | none =>
    have : l.length = 0 := by have := h3 rfl; omega
    obtain rfl := List.eq_nil_of_length_eq_zero this
    rfl
  | some a =>
    have hlc := run_loadCells_list (P := P) w a (bv l) hsl.rd
    rw [bv_length] at hlc
    have := run_bytesToString (P := P) w a l.length cap (l.map fun n : Nat => (n : Int)) (by rw [hlc]; simp [bv])
    rw [this, bs_push]
    simp [bs]

def Ob (P : Program) (ops : Array Oper) (L : List Sp) (n : Nat) (w0 : World) (o : Oper) : Prop :=
  ∀ (a : Act) w, w0.grownBy w none → (∀ t ∈ o.looksAt ops, t < n → At L t w (a.tmps.getD t undef)) → a.tmps.size = n →
    OpSays P ops o a w fun v w' => w.grownBy w' none ∧ ∀ d, o.dst = some d → At L d w' v
def ObAll (P : Program) (ops : Array Oper) (L : List Sp) (n : Nat) (w0 : World) : List Oper → Prop
  | [] => True
  | o :: l => Ob P ops L n w0 o ∧ ObAll P ops L n w0 l
theorem ObAll.at {P : Program} {ops : Array Oper} {L : List Sp} {n : Nat} {w0 : World} {l : List Oper} (h : ObAll P ops L n w0 l) : ∀ (i : Nat) (o : Oper), l[i]? = some o → Ob P ops L n w0 o := by
  induction l with
  | nil => intro i o h; simp at h
  | cons x l ih =>
    intro i o hi
    cases i with
    | zero => simp at hi; subst hi; exact h.1
    | succ i => exact ih h.2 i o (by simpa using hi)

/-- the slots ahead of the region: those that an operation writes are passed over -/
def InitP (w : World) : List Sp → List Value → List Bool → Prop
  | s :: L, v :: l, b :: bs => (b = true ∨ s.on w v) ∧ InitP w L l bs
  | _, _, _ => True
theorem InitP.at {w : World} : ∀ {L : List Sp} {l : List Value} {m : List Bool}, InitP w L l m → ∀ t, t < L.length → t < l.length → t < m.length → m.getD t false = true ∨ At L t w (l.getD t undef)
  | [], _, _, _, t, h, _, _ => by simp at h
  | _ :: _, [], _, _, t, _, h, _ => by simp at h
  | _ :: _, _ :: _, [], _, t, _, _, h => by simp at h
  | s :: L, v :: l, b :: bs, h, 0, _, _, _ => h.1
  | s :: L, v :: l, b :: bs, h, t + 1, h1, h2, h3 => InitP.at h.2 t (by simpa using h1) (by simpa using h2) (by simpa using h3)
/-- which slots a region writes -/
def dstsB (ops : List Oper) (n : Nat) : List Bool := (List.range n).map fun t => ops.any fun o => o.dst == some t

theorem region_list {P : Program} {Q : Exit → Act → World → Prop} {id : Nat} {ops : List Oper} {l0 : List Value} {ds : List Deferred} {w0 : World} (hm : P.follows .mixedOrders = true) (L : List Sp) (m : List Bool)
    (hB : regB ops.toArray L.length = true) (hm2 : dstsB ops L.length = m) (hn : l0.length = L.length)
    (h0 : InitP w0 L l0 m) (ob : ObAll P ops.toArray L L.length w0 ops)
    (hQ : ∀ a w, w0.grownBy w none → a.defers = ds → a.tmps.size = L.length → (∀ t, t < L.length → At L t w (a.tmps.getD t undef)) → Q .normal a w) :
    (Code.region id ops.toArray true).wp P Q ⟨l0.toArray, ds⟩ w0 := by
  refine region_rel hm L.length L (by simpa using hn) hB ?_ (fun i o hi => ob.at i o (by simpa using hi)) hQ
  intro t ht hnd
  have hml : m.length = L.length := by rw [← hm2]; simp [dstsB]
  rcases h0.at t ht (by omega) (by omega) with h | h
  · exfalso
    rw [← hm2] at h
    simp only [dstsB, List.getD_eq_getElem?_getD, List.getElem?_map, List.getElem?_range ht, Option.map_some, Option.getD_some, List.any_eq_true, beq_iff_eq] at h
    obtain ⟨o, ho, hd⟩ := h
    obtain ⟨i, hi, rfl⟩ := List.getElem_of_mem ho
    exact hnd i ops[i] (by simp) hd
  · simpa [List.getD_eq_getElem?_getD] using h

/-- a guard that says yes -/
def GOK (ops : Array Oper) (L : List Sp) (n : Nat) : Option (Nat × Bool) → Prop
  | none => True
  | some (g, b) => ∃ t, (ops[g]?).bind (·.dst) = some t ∧ t < n ∧ ∀ w v, At L t w v → v = .bool b
theorem GOK.wanted {ops : Array Oper} {L : List Sp} {n : Nat} {o : Oper} {a : Act} {w : World} (h : GOK ops L n o.guard) (hl : ∀ t ∈ o.looksAt ops, t < n → At L t w (a.tmps.getD t undef)) (hs : a.tmps.size = n) :
    Region.wanted o (yielded ops a.tmps) = true := by
  unfold Region.wanted
  cases hg : o.guard with
  | none => rfl
  | some p =>
    obtain ⟨g, b⟩ := p
    rw [hg] at h
    obtain ⟨t, ht, htn, hv⟩ := h
    have hv := hv w _ (hl t (by simp [Oper.looksAt, hg, ht]) htn)
    have htl : t < a.tmps.size := hs ▸ htn
    rw [Array.getD_eq_getD_getElem?, Array.getElem?_eq_getElem htl, Option.getD_some] at hv
    simp [yielded, ht, Array.getElem?_eq_getElem htl, hv]

/-- an operand whose value is known to the letter -/
def Opd (L : List Sp) (F : List Value) (n : Nat) : Operand → Prop
  | .tmp t => t < n ∧ ∀ w v, At L t w v → v = F.getD t undef
  | _ => True
section
variable {P : Program} {ops : Array Oper} {L : List Sp} {n : Nat} {w0 : World} {o : Oper}
theorem ob_run (hg : GOK ops L n o.guard) (h : ∀ (a : Act) w, w0.grownBy w none → (∀ t ∈ o.looksAt ops, t < n → At L t w (a.tmps.getD t undef)) → a.tmps.size = n → ∃ v, (execOp a.eval o).run P w = .ok (.value v) w ∧ ∀ d, o.dst = some d → At L d w v) : Ob P ops L n w0 o := by
  intro a w hw hl hs
  unfold OpSays
  rw [if_pos (hg.wanted hl hs)]
  obtain ⟨v, hr, hv⟩ := h a w hw hl hs
  rw [hr]
  exact ⟨World.grownBy.refl _ _, hv⟩
theorem ob_exact (F : List Value) (v : Value) (d : Nat) (hd : o.dst = some d) (hv : ∀ w, At L d w v) (hg : GOK ops L n o.guard) (hsel : ∀ cs b, o.op ≠ .select cs b) (hρ : ∀ x ∈ o.op.operands.toList, Opd L F n x)
    (hrun : ∀ w, w0.grownBy w none → (execOp (Act.eval ⟨F.toArray, []⟩) o).run P w = .ok (.value v) w) : Ob P ops L n w0 o := by
  refine ob_run hg fun a w hw hl hs => ⟨v, ?_, fun d' hd' => ?_⟩
  · rw [execOp_congr (ρ' := Act.eval ⟨F.toArray, []⟩) o hsel ?_]
    · exact hrun w hw
    · intro x hx
      have hx' := hρ x (by simpa using hx)
      cases x with
      | tmp t =>
        have := hx'.2 w _ (hl t (by simp only [Oper.looksAt, List.mem_append, List.mem_filterMap]; exact .inl ⟨.tmp t, by simpa using hx, rfl⟩) hx'.1)
        simp only [Act.eval]
        rw [this]
        simp [List.getD_eq_getElem?_getD]
      | _ => rfl
  · rw [hd] at hd'
    obtain rfl := Option.some.inj hd'
    exact hv w
/-- what is handed on as it is -/
theorem ob_move (s d : Nat) (ho : o.op = .move (.tmp s)) (hd : o.dst = some d) (hs : s < n) (hg : GOK ops L n o.guard) (h : ∀ w v, At L s w v → At L d w v) : Ob P ops L n w0 o := by
  refine ob_run hg fun a w hw hl hsz => ⟨a.tmps.getD s undef, by simp [execOp, ho, Act.eval], fun d' hd' => ?_⟩
  rw [hd] at hd'
  obtain rfl := Option.some.inj hd'
  exact h w _ (hl s (by simp [Oper.looksAt, ho, Op.operands]) hs)
theorem ob_assign (s d : Nat) (ho : o.op = .assign (.tmp s)) (hd : o.dst = some d) (hs : s < n) (hg : GOK ops L n o.guard) (h : ∀ w v, At L s w v → At L d w v) : Ob P ops L n w0 o := by
  refine ob_run hg fun a w hw hl hsz => ⟨a.tmps.getD s undef, by simp [execOp, ho, Act.eval], fun d' hd' => ?_⟩
  rw [hd] at hd'
  obtain rfl := Option.some.inj hd'
  exact h w _ (hl s (by simp [Oper.looksAt, ho, Op.operands]) hs)
/-- bytes to a string -/
theorem ob_conv (s d : Nat) (src dst e : TypeId) (h1 : P.underlying src = some (.slice e)) (h2 : P.underlying e = some (.int .u8)) (h3 : P.underlying dst = some .string) (l : List Nat)
    (ho : o.op = .convert src dst (.tmp s)) (hd : o.dst = some d) (hs : s < n) (hg : GOK ops L n o.guard) (h : ∀ w v, w0.grownBy w none → At L s w v → Sl w 1 v l.length (bv l)) (hv : ∀ w, At L d w (.string (bs l))) : Ob P ops L n w0 o := by
  refine ob_run hg fun a w hw hl hsz => ⟨.string (bs l), ?_, fun d' hd' => ?_⟩
  · have := run_conv (P := P) src dst e h1 h2 h3 (h w _ hw (hl s (by simp [Oper.looksAt, ho, Op.operands]) hs))
    simp [execOp, ho, Act.eval]
    simp at this
    simp [this, Result.andThen]
  · rw [hd] at hd'
    obtain rfl := Option.some.inj hd'
    exact hv w
/-- a call of a function by its number, its arguments known to the letter -/
theorem ob_call (F : List Value) (f : Nat) (d : Nat) (args : Array Operand) (tys : Array TypeId) (ho : o.op = .call { callee := .value (.func f), args := args, argTypes := tys }) (hd : o.dst = some d) (hg : GOK ops L n o.guard)
    (hρ : ∀ x ∈ args.toList, Opd L F n x)
    (hc : ∀ w, w0.grownBy w none → Calls P f (args.map (Act.eval ⟨F.toArray, []⟩)) w fun e w' => ∃ v, e = .returned v ∧ w.grownBy w' none ∧ At L d w' v)
    (hrun : ∀ (av : Array Value) w, ((Deferred.ofValue (.func (.func f) #[] #[]) av).run P w).andThen (fun a w' => (invoke a.target a.args).run P w') = .ok (.enter f av) w) : Ob P ops L n w0 o := by
  intro a w hw hl hsz
  unfold OpSays
  rw [if_pos (hg.wanted hl hsz)]
  have hargs : args.map a.eval = args.map (Act.eval ⟨F.toArray, []⟩) := by
    refine Array.map_congr_left fun x hx => ?_
    have hx' := hρ x (by simpa using hx)
    cases x with
    | tmp t =>
      have := hx'.2 w _ (hl t (by simp only [Oper.looksAt, List.mem_append, List.mem_filterMap]; exact .inl ⟨.tmp t, by simp [ho, Op.operands, Call.operands]; exact hx, rfl⟩) hx'.1)
      simp only [Act.eval]
      rw [this]
      simp [List.getD_eq_getElem?_getD]
    | _ => rfl
  have hr : (execOp a.eval o).run P w = .ok (.enter f (args.map (Act.eval ⟨F.toArray, []⟩))) w := by
    simp only [execOp, ho, resolve, Act.eval, Sem.run_bind]
    have h1 := hrun (args.map a.eval) w
    rw [hargs] at h1
    first
      | exact h1
      | (rw [hargs]; exact h1)
  rw [hr]
  exact (hc w hw).mono fun e w' ⟨v, he, hg', hv⟩ => ⟨v, he, hg', fun d' hd' => by rw [hd] at hd'; obtain rfl := Option.some.inj hd'; exact hv⟩
end
end

/-! ## Ops2 -/
section
open Go.RowKit

def OG (P : Program) (ops : Array Oper) (L : Nat → World → Value → Prop) (J : World → Prop) (D : Nat → World → Prop) (n i : Nat) (o : Oper) : Prop :=
  ∀ (a : Act) w, J w → (∀ t ∈ o.looksAt ops, t < n → L t w (a.tmps.getD t undef)) → a.tmps.size = n →
    OpSays P ops o a w fun v w' => J w' ∧ (∀ t x, L t w x → L t w' x) ∧ (∀ j, j ≠ i → D j w → D j w') ∧ D i w' ∧ ∀ d, o.dst = some d → L d w' v
def OGAll (P : Program) (ops : Array Oper) (L : Nat → World → Value → Prop) (J : World → Prop) (D : Nat → World → Prop) (n : Nat) : Nat → List Oper → Prop
  | _, [] => True
  | i, o :: l => OG P ops L J D n i o ∧ OGAll P ops L J D n (i + 1) l
theorem OGAll.at {P : Program} {ops : Array Oper} {L : Nat → World → Value → Prop} {J : World → Prop} {D : Nat → World → Prop} {n : Nat} : ∀ {l : List Oper} {k : Nat}, OGAll P ops L J D n k l → ∀ (i : Nat) (o : Oper), l[i]? = some o → OG P ops L J D n (k + i) o
  | [], _, _, i, o, hi => by simp at hi
  | x :: l, k, h, 0, o, hi => by simp at hi; subst hi; exact h.1
  | x :: l, k, h, i + 1, o, hi => by
    have := OGAll.at h.2 i o (by simpa using hi)
    rwa [show k + 1 + i = k + (i + 1) by omega] at this
/-- a guard that says yes -/
def GOKG (ops : Array Oper) (L : Nat → World → Value → Prop) (n : Nat) : Option (Nat × Bool) → Prop
  | none => True
  | some (g, b) => ∃ t, (ops[g]?).bind (·.dst) = some t ∧ t < n ∧ ∀ w v, L t w v → v = .bool b
theorem GOKG.wanted {ops : Array Oper} {L : Nat → World → Value → Prop} {n : Nat} {o : Oper} {a : Act} {w : World} (h : GOKG ops L n o.guard) (hl : ∀ t ∈ o.looksAt ops, t < n → L t w (a.tmps.getD t undef)) (hs : a.tmps.size = n) :
    Region.wanted o (yielded ops a.tmps) = true := by
  unfold Region.wanted
  cases hg : o.guard with
  | none => rfl
  | some p =>
    obtain ⟨g, b⟩ := p
    rw [hg] at h
    obtain ⟨t, ht, htn, hv⟩ := h
    have hv := hv w _ (hl t (by simp [Oper.looksAt, hg, ht]) htn)
    have htl : t < a.tmps.size := hs ▸ htn
    rw [Array.getD_eq_getD_getElem?, Array.getElem?_eq_getElem htl, Option.getD_some] at hv
    simp [yielded, ht, Array.getElem?_eq_getElem htl, hv]
section
variable {P : Program} {ops : Array Oper} {L : Nat → World → Value → Prop} {J : World → Prop} {D : Nat → World → Prop} {n i : Nat} {o : Oper}
/-- an operation that changes no memory -/
theorem og_run (hg : GOKG ops L n o.guard) (hD : ∀ w, J w → D i w) (h : ∀ (a : Act) w, J w → (∀ t ∈ o.looksAt ops, t < n → L t w (a.tmps.getD t undef)) → a.tmps.size = n → ∃ v, (execOp a.eval o).run P w = .ok (.value v) w ∧ ∀ d, o.dst = some d → L d w v) : OG P ops L J D n i o := by
  intro a w hw hl hs
  unfold OpSays
  rw [if_pos (hg.wanted hl hs)]
  obtain ⟨v, hr, hv⟩ := h a w hw hl hs
  rw [hr]
  exact ⟨hw, fun _ _ h => h, fun _ _ h => h, hD w hw, hv⟩
/-- the same, its operands known to the letter: the frame F -/
theorem og_exact (F : List Value) (hg : GOKG ops L n o.guard) (hD : ∀ w, J w → D i w) (hsel : ∀ cs b, o.op ≠ .select cs b) (hρ : ∀ t, Operand.tmp t ∈ o.op.operands.toList → t < n ∧ ∀ w v, J w → L t w v → v = F.getD t undef)
    (hrun : ∀ w, J w → ∃ v, (execOp (Act.eval ⟨F.toArray, []⟩) o).run P w = .ok (.value v) w ∧ ∀ d, o.dst = some d → L d w v) : OG P ops L J D n i o := by
  refine og_run hg hD fun a w hw hl hs => ?_
  obtain ⟨v, hr, hv⟩ := hrun w hw
  refine ⟨v, ?_, hv⟩
  rw [execOp_congr (ρ' := Act.eval ⟨F.toArray, []⟩) o hsel ?_]
  · exact hr
  · intro x hx
    cases x with
    | tmp t =>
      have hx' := hρ t (by simpa using hx)
      have := hx'.2 w _ hw (hl t (by simp only [Oper.looksAt, List.mem_append, List.mem_filterMap]; exact .inl ⟨.tmp t, by simpa using hx, rfl⟩) hx'.1)
      simp only [Act.eval]
      rw [this]
      simp [List.getD_eq_getElem?_getD]
    | _ => rfl
/-- an operation that writes and has no value -/
theorem og_skip (hg : GOKG ops L n o.guard) (hd : o.dst = none) (h : ∀ (a : Act) w, J w → (∀ t ∈ o.looksAt ops, t < n → L t w (a.tmps.getD t undef)) → a.tmps.size = n →
    ∃ w', (execOp a.eval o).run P w = .ok .skip w' ∧ J w' ∧ (∀ t x, L t w x → L t w' x) ∧ (∀ j, j ≠ i → D j w → D j w') ∧ D i w') : OG P ops L J D n i o := by
  intro a w hw hl hs
  unfold OpSays
  rw [if_pos (hg.wanted hl hs)]
  obtain ⟨w', hr, h1, h2, h3, h4⟩ := h a w hw hl hs
  rw [hr]
  exact ⟨h1, h2, h3, h4, fun d hd' => by rw [hd] at hd'; cases hd'⟩
/-- a call of a function by its number -/
theorem og_call (f : Nat) (args : Array Operand) (tys : Array TypeId) (ho : o.op = .call { callee := .value (.func f), args := args, argTypes := tys }) (hg : GOKG ops L n o.guard)
    (hrun : ∀ (av : Array Value) w, ((Deferred.ofValue (.func (.func f) #[] #[]) av).run P w).andThen (fun a w' => (invoke a.target a.args).run P w') = .ok (.enter f av) w)
    (hc : ∀ (a : Act) w, J w → (∀ t ∈ o.looksAt ops, t < n → L t w (a.tmps.getD t undef)) → a.tmps.size = n → Calls P f (args.map a.eval) w fun e w' => ∃ v, e = .returned v ∧ J w' ∧ (∀ t x, L t w x → L t w' x) ∧ (∀ j, j ≠ i → D j w → D j w') ∧ D i w' ∧ ∀ d, o.dst = some d → L d w' v) : OG P ops L J D n i o := by
  intro a w hw hl hs
  unfold OpSays
  rw [if_pos (hg.wanted hl hs)]
  have hr : (execOp a.eval o).run P w = .ok (.enter f (args.map a.eval)) w := by
    simp only [execOp, ho, resolve, Act.eval, Sem.run_bind]
    exact hrun (args.map a.eval) w
  rw [hr]
  exact hc a w hw hl hs
end
end

/-! ## Ty -/
section
open Go.RowKit

def ptr (b : Nat) : Value := .pointer (some ⟨b, 0, none⟩)
theorem row_of {w w' : World} {g : Nat} {o : Obj} {row : Option Nat} (hg : w.grownBy w' row) (h : w.heap[g]? = some o) (hne : some g ≠ row) : w'.heap[g]? = some o :=
  (hg.block g (Array.getElem?_eq_some_iff.1 h).1 hne).trans h

/-- v is a value of type T, its cells cs -/
structure TY (P : Program) (T : TypeId) (cs : List Value) (v : Value) : Prop where
  size : (P.info? T).map (·.size) = some cs.length
  cells : v.cells = cs.toArray
  one : ∀ c ∈ cs, c.oneCell' = true
  load : ∀ (w : World) (b o : Nat), w.rangeAt b o cs → (loadVar T ⟨b, o, none⟩).run P w = .ok v w

theorem TY.agg {P : Program} {T : TypeId} {cs : List Value} {d : TypeDesc} (hu : P.underlying T = some d) (hd : d.isRow = true) (hi : (P.info? T).map (·.size) = some cs.length) (h1 : ∀ c ∈ cs, c.oneCell' = true) : TY P T cs (.agg cs.toArray) :=
  ⟨hi, rfl, h1, fun w b o hr => run_loadVar_mid w b o T cs d hr hu hd hi⟩
theorem TY.one' {P : Program} {T : TypeId} {v : Value} {d : TypeDesc} (hu : P.underlying T = some d) (hd : d.isRow = false) (hi : (P.info? T).map (·.size) = some 1) (h1 : v.oneCell' = true) : TY P T [v] v := by
  refine ⟨hi, by cases v <;> first | rfl | (cases h1), by simpa using h1, fun w b o hr => ?_⟩
  have hc : w.cell? ⟨b, o, none⟩ = some v := hr 0 v rfl
  have hagg : (isAgg T).run P w = .ok false w := by
    unfold isAgg
    rw [Sem.run_bind, run_underlying hu w]
    cases d <;> simp_all
  simp [loadVar, Sem.run_bind, hagg, run_load, hc]
theorem rangeAt_row {w : World} {b : Nat} {cs : List Value} {t : TypeId} {fr : Nat × Nat} (h : w.heap[b]? = some (.cells cs.toArray t fr)) : w.rangeAt b 0 cs := fun j v hj => by
  rw [Nat.zero_add, cell_of_row w b j _ t fr h]
  simpa using hj
theorem TY.loads {P : Program} {T : TypeId} {cs : List Value} {v : Value} (h : TY P T cs v) {w : World} {b : Nat} {t : TypeId} {fr : Nat × Nat} (hb : w.heap[b]? = some (.cells cs.toArray t fr)) : (Instr.loadAt T (ptr b)).run P w = .ok v w := by
  simp only [Instr.loadAt, ptr, Instr.sureAddr, Sem.run_bind, Sem.run_pure, Result.andThen_ok, h.load w b 0 (rangeAt_row hb)]
theorem setCells_grown (b : Nat) : ∀ (vs : List Value) (o : Nat) (w : World), w.grownBy (w.setCells b o vs) (some b)
  | [], _, w => World.grownBy.refl _ _
  | v :: r, o, w => by
    rw [World.setCells]
    exact grown_trans (grown_setCell w ⟨b, o, none⟩ v) (setCells_grown b r (o + 1) _)
theorem setCells_row (b : Nat) (t : TypeId) : ∀ (vs : List Value) (o : Nat) (w : World) (pre post : List Value), o = pre.length → vs.length = post.length → w.heap[b]? = some (.cells (pre ++ post).toArray t (0, 0)) →
    (w.setCells b o vs).heap[b]? = some (.cells (pre ++ vs).toArray t (0, 0))
  | [], _, w, pre, post, _, hl, h => by
    obtain rfl : post = [] := List.eq_nil_of_length_eq_zero (by simpa using hl.symm)
    exact h
  | v :: r, o, w, pre, [], _, hl, _ => by simp at hl
  | v :: r, o, w, pre, x :: post, ho, hl, h => by
    rw [World.setCells]
    have := heap_setCell_same w b o _ t v h
    have e : ((pre ++ x :: post).toArray.setIfInBounds o v) = ((pre ++ [v]) ++ post).toArray := by
      subst ho
      simp
    rw [e] at this
    have := setCells_row b t r (o + 1) _ (pre ++ [v]) post (by simp [ho]) (by simpa using hl) this
    simpa using this
theorem TY.stores {P : Program} {T : TypeId} {cs : List Value} {v : Value} (h : TY P T cs v) {w : World} {b : Nat} {t : TypeId} {c0 : Array Value} (hb : w.heap[b]? = some (.cells c0 t (0, 0))) (hc : c0.size = cs.length) :
    (Instr.storeAt T (ptr b) v).run P w = .ok () (w.setCells b 0 cs) ∧ w.grownBy (w.setCells b 0 cs) (some b) ∧ (w.setCells b 0 cs).heap[b]? = some (.cells cs.toArray t (0, 0)) := by
  refine ⟨?_, setCells_grown b cs 0 w, ?_⟩
  · have := run_storeCells_cells (P := P) b 0 cs 0 w (fun j hj => by
      rw [cell_of_row w b _ _ t _ hb]
      have hj' : j < c0.size := by omega
      simp [hj']) (fun j hj => frozen_of_row w b _ _ t hb) h.one
    simp only [Instr.storeAt, ptr, Instr.sureAddr, Sem.run_bind, Sem.run_pure, Result.andThen_ok]
    have hs := h.size
    cases hq : P.info? T with
    | none => simp [hq] at hs
    | some i =>
      have hs' : i.size = cs.length := by simpa [hq] using hs
      simp only [Nat.add_zero] at this
      simp [storeVar, sizeOf, typeInfo, hq, h.cells, hs', this]
  · exact setCells_row b t cs 0 w [] c0.toList rfl (by simpa using hc.symm) (by simpa using hb)
end

/-! ## Ops3 -/
section
open Go.RowKit

/-- bytes in memory, wherever they lie -/
def Sp.sl (l : List Nat) : Sp := ⟨fun w v => Sl w 1 v l.length (bv l), fun _ _ _ hg h => h.kept hg (by cases Value.ownBlock _ <;> simp)⟩
def OpdAll (L : List Sp) (F : List Value) (n : Nat) : List Operand → Prop
  | [] => True
  | x :: l => Opd L F n x ∧ OpdAll L F n l
theorem OpdAll.mem {L : List Sp} {F : List Value} {n : Nat} : ∀ {l : List Operand}, OpdAll L F n l → ∀ x ∈ l, Opd L F n x
  | [], _, x, hx => by cases hx
  | y :: l, h, x, hx => by
    rcases List.mem_cons.1 hx with rfl | hx
    · exact h.1
    · exact h.2.mem x hx
section
variable {P : Program} {ops : Array Oper} {L : List Sp} {n : Nat} {w0 : World} {o : Oper}
theorem ob_ex (F : List Value) (v : Value) (d : Nat) (hd : o.dst = some d) (hv : ∀ w, At L d w v) (hg : GOK ops L n o.guard) (hsel : ∀ cs b, o.op ≠ .select cs b) (hρ : OpdAll L F n o.op.operands.toList)
    (hrun : ∀ w, w0.grownBy w none → (execOp (Act.eval ⟨F.toArray, []⟩) o).run P w = .ok (.value v) w) : Ob P ops L n w0 o :=
  ob_exact F v d hd hv hg hsel hρ.mem hrun
theorem ob_fn (F : List Value) (f : Nat) (d : Nat) (args : Array Operand) (tys : Array TypeId) (ho : o.op = .call { callee := .value (.func f), args := args, argTypes := tys }) (hd : o.dst = some d) (hg : GOK ops L n o.guard)
    (hρ : OpdAll L F n args.toList)
    (hc : ∀ w, w0.grownBy w none → Calls P f (args.map (Act.eval ⟨F.toArray, []⟩)) w fun e w' => ∃ v, e = .returned v ∧ w.grownBy w' none ∧ At L d w' v)
    (hrun : ∀ (av : Array Value) w, ((Deferred.ofValue (.func (.func f) #[] #[]) av).run P w).andThen (fun a w' => (invoke a.target a.args).run P w') = .ok (.enter f av) w) : Ob P ops L n w0 o :=
  ob_call F f d args tys ho hd hg hρ.mem hc hrun
/-- the number of elements of a slice -/
theorem ob_len (s d m : Nat) (t : TypeId) (e : TypeId) (he : P.underlying t = some (.slice e)) (ho : o.op = .call { callee := .builtin .len, args := #[.tmp s], argTypes := #[t] }) (hd : o.dst = some d) (hs : s < n) (hg : GOK ops L n o.guard)
    (h : ∀ w v, w0.grownBy w none → At L s w v → ∃ ao c, v = .slice ao m c) (hv : ∀ w, At L d w (.int .i64 m)) : Ob P ops L n w0 o := by
  refine ob_run hg fun a w hw hl hsz => ⟨.int .i64 m, ?_, fun d' hd' => ?_⟩
  · obtain ⟨ao, c, hx⟩ := h w _ hw (hl s (by simp [Oper.looksAt, ho, Op.operands, Call.operands]) hs)
    simp only [execOp, ho, resolve, Sem.run_bind, Sem.run_pure, Result.andThen_ok, List.map_toArray, List.map_cons, List.map_nil, Act.eval, hx]
    simp [invoke, builtin, Builtin.len_, run_underlying he, goInt]
  · rw [hd] at hd'
    obtain rfl := Option.some.inj hd'
    exact hv w
/-- an operand whose value is known -/
def OpdIs (L : List Sp) (n : Nat) : Operand → Value → Prop
  | .tmp t, v => t < n ∧ ∀ w u, At L t w u → u = v
  | .const c, v => c = v
  | _, _ => False
theorem OpdIs.eval {x : Operand} {v : Value} (h : OpdIs L n x v) {a : Act} {w : World} (hx : x ∈ o.op.operands.toList) (hl : ∀ t ∈ o.looksAt ops, t < n → At L t w (a.tmps.getD t undef)) : a.eval x = v := by
  cases x with
  | tmp t => exact h.2 w _ (hl t (by simp only [Oper.looksAt, List.mem_append, List.mem_filterMap]; exact .inl ⟨.tmp t, by simpa using hx, rfl⟩) h.1)
  | const c => exact h
  | global g => exact h.elim
  | func f => exact h.elim
theorem ob_bin {b : BinOp} {ty ty2 : TypeId} {x y : Operand} {vx vy v : Value} {d : Nat} (ho : o.op = .binOp b ty x y ty2) (hd : o.dst = some d) (hg : GOK ops L n o.guard) (hx : OpdIs L n x vx) (hy : OpdIs L n y vy)
    (hrun : ∀ w, (do eqGuard b ty x y vx vy; binOp b ty vx vy : Sem Value).run P w = .ok v w) (hv : ∀ w, At L d w v) : Ob P ops L n w0 o := by
  refine ob_run hg fun a w hw hl hsz => ⟨v, ?_, fun d' hd' => ?_⟩
  · have e1 := hx.eval (o := o) (by simp [ho, Op.operands]) hl
    have e2 := hy.eval (o := o) (by simp [ho, Op.operands]) hl
    simp only [execOp, ho, e1, e2]
    have := hrun w
    simp only [Sem.run_bind] at this ⊢
    rw [this]
    rfl
  · rw [hd] at hd'
    obtain rfl := Option.some.inj hd'
    exact hv w
theorem ob_eqS {ty ty2 : TypeId} {x y : Operand} {a b : ByteArray} {d : Nat} (ho : o.op = .binOp .eql ty x y ty2) (hd : o.dst = some d) (hg : GOK ops L n o.guard) (hx : OpdIs L n x (.string a)) (hy : OpdIs L n y (.string b)) (hab : a = b) (hv : ∀ w, At L d w (.bool true)) : Ob P ops L n w0 o :=
  ob_bin ho hd hg hx hy (fun w => by subst hab; simp [eqGuard, binOp_string_eql]) hv
theorem ob_eqI {ty ty2 : TypeId} {x y : Operand} {k : IntKind} {a b : Int} {d : Nat} (ho : o.op = .binOp .eql ty x y ty2) (hd : o.dst = some d) (hg : GOK ops L n o.guard) (hx : OpdIs L n x (.int k a)) (hy : OpdIs L n y (.int k b)) (hab : a = b) (hv : ∀ w, At L d w (.bool true)) : Ob P ops L n w0 o :=
  ob_bin ho hd hg hx hy (fun w => by subst hab; simp [eqGuard, binOp_eql]) hv
theorem ob_addS {ty ty2 : TypeId} {x y : Operand} {a b : ByteArray} {d : Nat} (ho : o.op = .binOp .add ty x y ty2) (hd : o.dst = some d) (hg : GOK ops L n o.guard) (hx : OpdIs L n x (.string a)) (hy : OpdIs L n y (.string b)) (hab : a.size + b.size ≤ 1099511627776) (hv : ∀ w, At L d w (.string (a ++ b))) : Ob P ops L n w0 o :=
  ob_bin ho hd hg hx hy (fun w => by
    have h : ¬ (((a.size + b.size : Nat) : Int) > IntKind.i64.max) := by
      have : IntKind.i64.max = 9223372036854775807 := by decide
      rw [this]; omega
    simp only [eqGuard, binOp_string_add, Op.stringOp, if_neg h, Sem.run_bind]
    rfl) hv
theorem ob_pick {x y z : Operand} {v : Value} {d : Nat} (ho : o.op = .pick x y z) (hd : o.dst = some d) (hg : GOK ops L n o.guard) (hx : OpdIs L n x (.bool true)) (hy : OpdIs L n y v) (hv : ∀ w, At L d w v) : Ob P ops L n w0 o := by
  refine ob_run hg fun a w hw hl hsz => ⟨v, ?_, fun d' hd' => ?_⟩
  · have e1 := hx.eval (o := o) (by simp [ho, Op.operands]) hl
    have e2 := hy.eval (o := o) (by simp [ho, Op.operands]) hl
    simp [execOp, ho, e1, e2, asBool]
  · rw [hd] at hd'
    obtain rfl := Option.some.inj hd'
    exact hv w
def OpdIsAll (L : List Sp) (n : Nat) : List Operand → List Value → Prop
  | [], [] => True
  | x :: l, v :: vs => OpdIs L n x v ∧ OpdIsAll L n l vs
  | _, _ => False
theorem OpdIsAll.eval : ∀ {l : List Operand} {vs : List Value}, OpdIsAll L n l vs → ∀ {a : Act} {w : World}, (∀ x ∈ l, x ∈ o.op.operands.toList) → (∀ t ∈ o.looksAt ops, t < n → At L t w (a.tmps.getD t undef)) → l.map a.eval = vs
  | [], [], _, _, _, _, _ => rfl
  | x :: l, v :: vs, h, a, w, hx, hl => by
    rw [List.map_cons, OpdIs.eval (o := o) h.1 (hx x List.mem_cons_self) hl, OpdIsAll.eval h.2 (fun y hy => hx y (List.mem_cons_of_mem _ hy)) hl]
  | [], _ :: _, h, _, _, _, _ => h.elim
  | _ :: _, [], h, _, _, _, _ => h.elim
/-- a call of a function, its arguments known -/
theorem ob_call2 (av : List Value) {f : Nat} {d : Nat} {args : Array Operand} {tys : Array TypeId} (ho : o.op = .call { callee := .value (.func f), args := args, argTypes := tys }) (hd : o.dst = some d) (hg : GOK ops L n o.guard)
    (hρ : OpdIsAll L n args.toList av)
    (hc : ∀ w, w0.grownBy w none → Calls P f av.toArray w fun e w' => ∃ v, e = .returned v ∧ w.grownBy w' none ∧ At L d w' v)
    (hrun : ∀ (av : Array Value) w, ((Deferred.ofValue (.func (.func f) #[] #[]) av).run P w).andThen (fun a w' => (invoke a.target a.args).run P w') = .ok (.enter f av) w) : Ob P ops L n w0 o := by
  intro a w hw hl hsz
  unfold OpSays
  rw [if_pos (hg.wanted hl hsz)]
  have hargs : args.map a.eval = av.toArray := by
    have := hρ.eval (o := o) (fun x hx => by simp only [ho, Op.operands, Call.operands]; simp at hx; simp; exact .inr hx) hl
    rw [← this]
    apply Array.ext'
    simp
  have hr : (execOp a.eval o).run P w = .ok (.enter f av.toArray) w := by
    simp only [execOp, ho, resolve, Act.eval, Sem.run_bind]
    have h1 := hrun (args.map a.eval) w
    rw [hargs] at h1
    first
      | exact h1
      | (rw [hargs]; exact h1)
  rw [hr]
  exact (hc w hw).mono fun e w' ⟨v, he, hg', hv⟩ => ⟨v, he, hg', fun d' hd' => by rw [hd] at hd'; obtain rfl := Option.some.inj hd'; exact hv⟩
theorem ob_const {c : Value} {d : Nat} (ho : o.op = .move (.const c) ∨ o.op = .assign (.const c)) (hd : o.dst = some d) (hg : GOK ops L n o.guard) (hv : ∀ w, At L d w c) : Ob P ops L n w0 o := by
  refine ob_run hg fun a w hw hl hsz => ⟨c, ?_, fun d' hd' => ?_⟩
  · rcases ho with ho | ho <;> simp [execOp, ho, Act.eval]
  · rw [hd] at hd'
    obtain rfl := Option.some.inj hd'
    exact hv w
theorem rangeAt_kept {w w' : World} {b o : Nat} {cs : List Value} (h : w.rangeAt b o cs) (hg : w.grownBy w' none) : w'.rangeAt b o cs := fun j v hj => hg.cell (h j v hj) (by simp)
theorem ob_load {ty : TypeId} {x : Operand} {b off d : Nat} {v : Value} {cs : List Value} (ho : o.op = .load ty x) (hd : o.dst = some d) (hg : GOK ops L n o.guard) (hx : OpdIs L n x (.pointer (some ⟨b, off, none⟩)))
    (hT : TY P ty cs v) (hc : w0.rangeAt b off cs) (hv : ∀ w, w0.grownBy w none → At L d w v) : Ob P ops L n w0 o := by
  refine ob_run hg fun a w hw hl hsz => ⟨v, ?_, fun d' hd' => ?_⟩
  · have e1 := hx.eval (o := o) (by simp [ho, Op.operands]) hl
    simp only [execOp, ho, e1, Instr.loadAt, Instr.sureAddr, Sem.run_bind, Sem.run_pure, Result.andThen_ok, hT.load w b off (rangeAt_kept hc hw)]
  · rw [hd] at hd'
    obtain rfl := Option.some.inj hd'
    exact hv w hw
theorem ob_nilCheck {x : Operand} {a0 : Addr} {d : Nat} (ho : o.op = .nilCheck x) (hd : o.dst = some d) (hg : GOK ops L n o.guard) (hx : OpdIs L n x (.pointer (some a0))) (hv : ∀ w, At L d w (.pointer (some a0))) : Ob P ops L n w0 o := by
  refine ob_run hg fun a w hw hl hsz => ⟨.pointer (some a0), ?_, fun d' hd' => ?_⟩
  · have e1 := hx.eval (o := o) (by simp [ho, Op.operands]) hl
    simp only [execOp, ho, e1, Sem.run_pure]
  · rw [hd] at hd'
    obtain rfl := Option.some.inj hd'
    exact hv w
theorem ob_fieldAddr {ty : TypeId} {x : Operand} {k d : Nat} {p v : Value} (ho : o.op = .fieldAddr ty x k) (hd : o.dst = some d) (hg : GOK ops L n o.guard) (hx : OpdIs L n x p) (hrun : ∀ w, (Instr.fieldAt ty p k).run P w = .ok v w) (hv : ∀ w, At L d w v) : Ob P ops L n w0 o := by
  refine ob_run hg fun a w hw hl hsz => ⟨v, ?_, fun d' hd' => ?_⟩
  · have e1 := hx.eval (o := o) (by simp [ho, Op.operands]) hl
    simp only [execOp, ho, e1, Sem.run_bind, Sem.run_pure, Result.andThen_ok, hrun w]
  · rw [hd] at hd'
    obtain rfl := Option.some.inj hd'
    exact hv w
end
end

/-! ## Lin -/
section
open Go.RowKit

/-- from w to w' new blocks came, and at most one row of type E, from B on, was written -/
def URow (E : TypeId) (B : Nat) (w w' : World) : Prop := ∃ row : Option Nat, w.grownBy w' row ∧ ∀ k, row = some k → B ≤ k ∧ ∃ c fr, w.heap[k]? = some (.cells c E fr)
theorem URow.quiet {E : TypeId} {B : Nat} {w w' : World} (h : w.grownBy w' none) : URow E B w w' := ⟨Option.none, h, fun k hk => by cases hk⟩
theorem URow.below {E : TypeId} {B : Nat} {w w' : World} (h : URow E B w w') (hB : B ≤ w.heap.size) : Below B w w' := by
  obtain ⟨row, hg, hr⟩ := h
  exact (Below.refl B w).grown hg hB fun k hk => (hr k hk).1
theorem URow.row {E T : TypeId} {B : Nat} {w w' : World} (h : URow E B w w') (hne : T ≠ E) {k : Nat} {c : Array Value} {fr : Nat × Nat} (hk : w.heap[k]? = some (.cells c T fr)) : w'.heap[k]? = some (.cells c T fr) := by
  obtain ⟨row, hg, hr⟩ := h
  refine (hg.block k (Array.getElem?_eq_some_iff.1 hk).1 fun e => ?_).trans hk
  obtain ⟨_, c', fr', h'⟩ := hr k e.symm
  rw [hk] at h'
  simp at h'
  exact hne h'.2.1
theorem URow.size {E : TypeId} {B : Nat} {w w' : World} (h : URow E B w w') : w.heap.size ≤ w'.heap.size := by obtain ⟨_, hg, _⟩ := h; exact hg.size

/-- what is known of a slot: used up by the next write (lin) or not -/
structure Fk (E : TypeId) (B : Nat) where
  on : World → Value → Prop
  lin : Bool
  m0 : ∀ w w' v, w.grownBy w' none → on w v → on w' v
  m1 : lin = false → ∀ w w' v, URow E B w w' → on w v → on w' v

/-- operation j is ahead of operation i -/
def ahead (ops : Array Oper) : Nat → Nat → Nat → Bool
  | 0, _, _ => false
  | f + 1, i, j => match ops[i]? with
    | none => false
    | some o => o.after.toList.any fun e => Region.binds .any e && (e.on == j || ahead ops f e.on j)
def writer (ops : Array Oper) (t : Nat) : Option Nat := (List.range ops.size).find? fun i => match ops[i]? with | none => false | some o => o.dst == some t
def looks (ops : Array Oper) (i t : Nat) : Bool := match ops[i]? with | none => false | some o => (o.looksAt ops).contains t
/-- operation i reads what the region itself wrote into t -/
def late (ops : Array Oper) (i t : Nat) : Bool := match writer ops t with | none => false | some j => ahead ops ops.size i j
/-- the closed part -/
def linB (ops : Array Oper) (n : Nat) (q : List Bool) (l0 l1 : List Bool) (E : List Nat) : Bool :=
  ((List.range ops.size).all fun i => match ops[i]? with
    | none => true
    | some o => (o.after.toList.all fun e => decide (e.on < i)) && (match o.dst with | none => true | some d => decide (d < n) && writer ops d == some i) &&
      ((List.range n).all fun t => !looks ops i t || match writer ops t with | none => true | some j => j == i || ahead ops ops.size i j || ahead ops ops.size j i) &&
      (q.getD i false || (List.range n).all fun t =>
        (!l0.getD t false || (List.range ops.size).all fun k => !looks ops k t || late ops k t || k == i || ahead ops ops.size i k) &&
        (!l1.getD t false || match writer ops t with
          | none => true
          | some j => j == i || ahead ops ops.size j i || (List.range ops.size).all fun k => !looks ops k t || !late ops k t || k == i || ahead ops ops.size i k))) &&
  E.all fun t => decide (t < n) && match writer ops t with
    | none => !l0.getD t false || (List.range ops.size).all fun i => q.getD i false
    | some j => !l1.getD t false || (List.range ops.size).all fun i => q.getD i false || i == j || ahead ops ops.size j i

theorem ahead_closed {ops : Array Oper} {S : Nat → Bool} (hS : ∀ (i : Nat) (o : Oper), S i = true → ops[i]? = some o → ∀ e ∈ o.after.toList, Region.binds .any e = true → S e.on = true) : ∀ (f i j : Nat), ahead ops f i j = true → S i = true → S j = true
  | 0, i, j, h, _ => by simp [ahead] at h
  | f + 1, i, j, h, hi => by
    unfold ahead at h
    split at h
    · cases h
    · rename_i o ho
      obtain ⟨e, he, h⟩ := List.any_eq_true.1 h
      simp only [Bool.and_eq_true, Bool.or_eq_true, beq_iff_eq] at h
      have := hS i o hi ho e he h.1
      rcases h.2 with h2 | h2
      · rw [← h2]; exact this
      · exact ahead_closed hS f e.on j h2 this
theorem ahead_lt {ops : Array Oper} (hb : ∀ (i : Nat) (o : Oper), ops[i]? = some o → ∀ e ∈ o.after.toList, e.on < i) : ∀ (f i j : Nat), ahead ops f i j = true → j < i
  | 0, i, j, h => by simp [ahead] at h
  | f + 1, i, j, h => by
    unfold ahead at h
    split at h
    · cases h
    · rename_i o ho
      obtain ⟨e, he, h⟩ := List.any_eq_true.1 h
      simp only [Bool.and_eq_true, Bool.or_eq_true, beq_iff_eq] at h
      have := hb i o ho e he
      rcases h.2 with h2 | h2
      · omega
      · have := ahead_lt hb f e.on j h2; omega
theorem writer_spec {ops : Array Oper} {t j : Nat} (h : writer ops t = some j) : ∃ o, ops[j]? = some o ∧ o.dst = some t := by
  unfold writer at h
  have h1 := List.find?_some h
  split at h1
  · cases h1
  · rename_i o ho
    exact ⟨o, ho, by simpa using h1⟩
theorem writer_none {ops : Array Oper} {t : Nat} (h : writer ops t = none) {i : Nat} {o : Oper} (hi : ops[i]? = some o) : o.dst ≠ some t := by
  unfold writer at h
  have := List.find?_eq_none.1 h i (List.mem_range.2 (Array.getElem?_eq_some_iff.1 hi).1)
  simp only [hi] at this
  simpa using this

theorem region_lin {P : Program} {Q : Exit → Act → World → Prop} {id : Nat} {ops : Array Oper} {a0 : Act} {w0 : World} (hm : P.follows .mixedOrders = true) (E : TypeId) (B n : Nat) (q l0 l1 : List Bool) (fin : List Nat) (L0 L1 : Nat → Fk E B) (J : World → Prop)
    (hJm : ∀ w w', URow E B w w' → J w → J w') (hJ : J w0) (hn : a0.tmps.size = n) (hB : linB ops n q l0 l1 fin = true)
    (hl0 : ∀ t, t < n → (L0 t).lin = l0.getD t false) (hl1 : ∀ t, t < n → (L1 t).lin = l1.getD t false)
    (h0 : ∀ t, t < n → (L0 t).on w0 (a0.tmps.getD t undef))
    (ob : ∀ (i : Nat) (o : Oper), ops[i]? = some o → ∀ a w, J w → (∀ t ∈ o.looksAt ops, t < n → (if late ops i t then L1 t else L0 t).on w (a.tmps.getD t undef)) → a.tmps.size = n →
      OpSays P ops o a w fun v w' => (if q.getD i false then w.grownBy w' none else URow E B w w') ∧ ∀ d, o.dst = some d → (L1 d).on w' v)
    (hQ : ∀ a w, J w → a.defers = a0.defers → a.tmps.size = n → (∀ t, (∀ (i : Nat) (o : Oper), ops[i]? = some o → o.dst ≠ some t) → a.tmps.getD t undef = a0.tmps.getD t undef) → (∀ t ∈ fin, (match writer ops t with | some _ => L1 t | none => L0 t).on w (a.tmps.getD t undef)) → Q .normal a w) :
    (Code.region id ops true).wp P Q a0 w0 := by
  unfold linB at hB
  rw [Bool.and_eq_true] at hB
  obtain ⟨hB1, hB2⟩ := hB
  have spec : ∀ (i : Nat) (o : Oper), ops[i]? = some o → (∀ e ∈ o.after.toList, e.on < i) ∧ (∀ d, o.dst = some d → d < n ∧ writer ops d = some i) ∧
      (∀ t, t < n → t ∈ o.looksAt ops → ∀ j, writer ops t = some j → j = i ∨ ahead ops ops.size i j = true ∨ ahead ops ops.size j i = true) ∧
      (q.getD i false = false → ∀ t, t < n → (l0.getD t false = true → ∀ (k : Nat) (ok : Oper), ops[k]? = some ok → t ∈ ok.looksAt ops → late ops k t = false → k = i ∨ ahead ops ops.size i k = true) ∧
        (l1.getD t false = true → ∀ j, writer ops t = some j → j = i ∨ ahead ops ops.size j i = true ∨ ∀ (k : Nat) (ok : Oper), ops[k]? = some ok → t ∈ ok.looksAt ops → late ops k t = true → k = i ∨ ahead ops ops.size i k = true)) := by
    intro i o ho
    have hlt := (Array.getElem?_eq_some_iff.1 ho).1
    have h := List.all_eq_true.1 hB1 i (List.mem_range.2 hlt)
    simp only [ho, Bool.and_eq_true] at h
    obtain ⟨⟨⟨h1, h2⟩, h3⟩, h4⟩ := h
    have lk : ∀ (k : Nat) (ok : Oper) (t : Nat), ops[k]? = some ok → t ∈ ok.looksAt ops → looks ops k t = true := fun k ok t hk ht => by
      unfold looks; rw [hk]; simpa using ht
    refine ⟨fun e he => by simpa using List.all_eq_true.1 h1 e he, fun d hd => ?_, fun t ht hl j hj => ?_, fun hq t ht => ⟨fun hl k ok hk hkt hla => ?_, fun hl j hj => ?_⟩⟩
    · rw [hd] at h2
      simpa using h2
    · have := List.all_eq_true.1 h3 t (List.mem_range.2 ht)
      rw [lk i o t ho hl] at this
      simp only [Bool.not_true, Bool.false_or, hj, Bool.or_eq_true, beq_iff_eq] at this
      rcases this with (h | h) | h
      · exact .inl h
      · exact .inr (.inl h)
      · exact .inr (.inr h)
    · rw [hq, Bool.false_or] at h4
      have := List.all_eq_true.1 h4 t (List.mem_range.2 ht)
      rw [Bool.and_eq_true] at this
      have h5 := this.1
      rw [hl] at h5
      simp only [Bool.not_true, Bool.false_or] at h5
      have h6 := List.all_eq_true.1 h5 k (List.mem_range.2 (Array.getElem?_eq_some_iff.1 hk).1)
      rw [lk k ok t hk hkt, hla] at h6
      simpa using h6
    · rw [hq, Bool.false_or] at h4
      have := List.all_eq_true.1 h4 t (List.mem_range.2 ht)
      rw [Bool.and_eq_true] at this
      have h5 := this.2
      rw [hl] at h5
      simp only [Bool.not_true, Bool.false_or, hj, Bool.or_eq_true, beq_iff_eq] at h5
      rcases h5 with (h5 | h5) | h5
      · exact .inl h5
      · exact .inr (.inl h5)
      · refine .inr (.inr fun k ok hk hkt hla => ?_)
        have h6 := List.all_eq_true.1 h5 k (List.mem_range.2 (Array.getElem?_eq_some_iff.1 hk).1)
        rw [lk k ok t hk hkt, hla] at h6
        simpa using h6
  have hback : ∀ (i : Nat) (o : Oper), ops[i]? = some o → ∀ e ∈ o.after.toList, e.on < i := fun i o ho => (spec i o ho).1
  -- what holds when the operations of S have run
  let Good : (Nat → Bool) → World → (Nat → Value) → Prop := fun S w x =>
    (∀ (i : Nat) (o : Oper), S i = true → ops[i]? = some o → ∀ e ∈ o.after.toList, Region.binds .any e = true → S e.on = true) ∧
    ∀ t, t < n → match writer ops t with
      | some j => if S j then ((L1 t).lin = true ∧ ∃ i, i < ops.size ∧ S i = true ∧ q.getD i false = false ∧ i ≠ j ∧ ahead ops ops.size j i = false) ∨ (L1 t).on w (x t) else ((L0 t).lin = true ∧ ∃ i, i < ops.size ∧ S i = true ∧ q.getD i false = false) ∨ (L0 t).on w (x t)
      | none => ((L0 t).lin = true ∧ ∃ i, i < ops.size ∧ S i = true ∧ q.getD i false = false) ∨ (L0 t).on w (x t)
  have initOk : ∀ S w x, Good S w x → ∀ (i : Nat) (o : Oper), ops[i]? = some o → S i = false → ∀ t, t < n → t ∈ o.looksAt ops → late ops i t = false → (((L0 t).lin = true ∧ ∃ i, i < ops.size ∧ S i = true ∧ q.getD i false = false) ∨ (L0 t).on w (x t)) → (L0 t).on w (x t) := by
    intro S w x hG i o ho hSi t ht hl hla h
    rcases h with ⟨hlin, i', hi', hS', hq'⟩ | h
    · exfalso
      obtain ⟨o', ho'⟩ : ∃ o', ops[i']? = some o' := ⟨_, Array.getElem?_eq_getElem hi'⟩
      rcases ((spec i' o' ho').2.2.2 hq' t ht).1 (by rw [← hl0 t ht]; exact hlin) i o ho hl hla with rfl | ha
      · rw [hS'] at hSi; cases hSi
      · have := ahead_closed hG.1 _ _ _ ha hS'
        rw [this] at hSi; cases hSi
    · exact h
  have readOk : ∀ S w x, Good S w x → ∀ (i : Nat) (o : Oper), ops[i]? = some o → S i = false → (∀ e ∈ o.after.toList, Region.binds .any e = true → S e.on = true) → ∀ t ∈ o.looksAt ops, t < n → (if late ops i t then L1 t else L0 t).on w (x t) := by
    intro S w x hG i o ho hSi hready t hl ht
    have hg := hG.2 t ht
    -- what is ahead of i has run
    have hS2 : ∀ j, ahead ops ops.size i j = true → S j = true := by
      intro j hj
      have hS' : ∀ (i' : Nat) (o' : Oper), (fun k => S k || k == i) i' = true → ops[i']? = some o' → ∀ e ∈ o'.after.toList, Region.binds .any e = true → (fun k => S k || k == i) e.on = true := by
        intro i' o' h1 h2 e he hb
        simp only [Bool.or_eq_true, beq_iff_eq] at h1 ⊢
        rcases h1 with h1 | rfl
        · exact .inl (hG.1 i' o' h1 h2 e he hb)
        · rw [ho] at h2; obtain rfl := Option.some.inj h2
          exact .inl (hready e he hb)
      have := ahead_closed hS' _ _ _ hj (by simp)
      simp only [Bool.or_eq_true, beq_iff_eq] at this
      rcases this with h | rfl
      · exact h
      · have := ahead_lt hback _ _ _ hj; omega
    cases hw : writer ops t with
    | none =>
      have hla : late ops i t = false := by unfold late; rw [hw]
      rw [hla]
      rw [hw] at hg
      exact initOk S w x hG i o ho hSi t ht hl hla hg
    | some j =>
      rw [hw] at hg
      by_cases hij : ahead ops ops.size i j = true
      · have hla : late ops i t = true := by unfold late; rw [hw]; exact hij
        rw [hla]
        have hSj := hS2 j hij
        simp only [hSj, if_true] at hg
        rcases hg with ⟨hlin, i', hi', hS', hq', hne, hnb⟩ | h
        · exfalso
          obtain ⟨o', ho'⟩ : ∃ o', ops[i']? = some o' := ⟨_, Array.getElem?_eq_getElem hi'⟩
          rcases ((spec i' o' ho').2.2.2 hq' t ht).2 (by rw [← hl1 t ht]; exact hlin) j hw with h | h | h
          · exact hne h.symm
          · rw [hnb] at h; cases h
          · rcases h i o ho hl hla with rfl | ha
            · rw [hS'] at hSi; cases hSi
            · have := ahead_closed hG.1 _ _ _ ha hS'
              rw [this] at hSi; cases hSi
        · exact h
      · have hla : late ops i t = false := by unfold late; rw [hw]; simpa using hij
        rw [hla]
        have hSj : S j = false := by
          cases hSj : S j with
          | false => rfl
          | true =>
            exfalso
            rcases (spec i o ho).2.2.1 t ht hl j hw with rfl | h | h
            · rw [hSj] at hSi; cases hSi
            · exact hij h
            · have := ahead_closed hG.1 _ _ _ h hSj
              rw [this] at hSi; cases hSi
        simp only [hSj, Bool.false_eq_true, if_false] at hg
        exact initOk S w x hG i o ho hSi t ht hl hla hg
  refine wp_region_any hm ?_
  have key : ∀ (fuel : Nat) (listed : Array Bool) (a : Act) (w : World), listed.size = ops.size → (∀ l : List Nat, l.Nodup → (∀ i ∈ l, i < ops.size ∧ listed.getD i true = false) → l.length ≤ fuel) →
      J w → a.defers = a0.defers → a.tmps.size = n → (∀ t, (∀ (i : Nat) (o : Oper), ops[i]? = some o → o.dst ≠ some t) → a.tmps.getD t undef = a0.tmps.getD t undef) → Good (fun i => listed.getD i false) w (fun t => a.tmps.getD t undef) → wpAny P .any ops Q fuel listed a w := by
    intro fuel
    have done : ∀ (listed : Array Bool) (a : Act) (w : World), listed.size = ops.size → Region.ready .any ops listed = [] → J w → a.defers = a0.defers → a.tmps.size = n → (∀ t, (∀ (i : Nat) (o : Oper), ops[i]? = some o → o.dst ≠ some t) → a.tmps.getD t undef = a0.tmps.getD t undef) →
      Good (fun i => listed.getD i false) w (fun t => a.tmps.getD t undef) → Q .normal a w := by
      intro listed a w hsz hr hg hd has hfr hG
      have all : ∀ i, i < ops.size → listed.getD i false = true := by
        intro i
        induction i using Nat.strongRecOn with
        | _ i ih =>
          intro hi
          cases hl : listed.getD i false with
          | true => rfl
          | false =>
            exfalso
            have ho : ops[i]? = some ops[i] := Array.getElem?_eq_getElem hi
            have : i ∈ Region.ready .any ops listed := mem_ready.2 ⟨by
                have : i < listed.size := by omega
                simp only [Array.getD_eq_getD_getElem?, Array.getElem?_eq_getElem this, Option.getD_some] at hl ⊢
                exact hl, ops[i], ho, fun e he _ => by
                have := hback i _ ho e (by simpa using he)
                exact ih e.on this (by omega)⟩
            rw [hr] at this
            cases this
      refine hQ a w hg hd has hfr fun t htf => ?_
      have h := List.all_eq_true.1 hB2 t htf
      simp only [Bool.and_eq_true, decide_eq_true_eq] at h
      obtain ⟨ht, h⟩ := h
      have hgt := hG.2 t ht
      cases hw : writer ops t with
      | none =>
        rw [hw] at hgt h
        rcases hgt with ⟨hlin, i', hi', hS', hq'⟩ | hgt
        · exfalso
          rw [hl0 t ht] at hlin
          rw [hlin] at h
          simp only [Bool.not_true, Bool.false_or] at h
          have := List.all_eq_true.1 h i' (List.mem_range.2 hi')
          rw [hq'] at this; cases this
        · exact hgt
      | some j =>
        rw [hw] at hgt h
        obtain ⟨oj, hoj, _⟩ := writer_spec hw
        simp only [all j (Array.getElem?_eq_some_iff.1 hoj).1, if_true] at hgt
        rcases hgt with ⟨hlin, i', hi', hS', hq', hne, hnb⟩ | hgt
        · exfalso
          rw [hl1 t ht] at hlin
          rw [hlin] at h
          simp only [Bool.not_true, Bool.false_or] at h
          have := List.all_eq_true.1 h i' (List.mem_range.2 hi')
          rw [hq', hnb] at this
          simp at this
          exact hne this
        · exact hgt
    induction fuel with
    | zero =>
      intro listed a w hsz hf hg hd has hfr hG
      have hr : Region.ready .any ops listed = [] := by
        cases hr : Region.ready .any ops listed with
        | nil => rfl
        | cons i r =>
          exfalso
          have hi : i ∈ Region.ready .any ops listed := by rw [hr]; exact List.mem_cons_self
          obtain ⟨h1, o, h2, _⟩ := mem_ready.1 hi
          have := hf [i] (by simp) (fun k hk => by simp at hk; subst hk; exact ⟨(Array.getElem?_eq_some_iff.1 h2).1, h1⟩)
          simp at this
      exact ⟨hr, done listed a w hsz hr hg hd has hfr hG⟩
    | succ fuel ih =>
      intro listed a w hsz hf hg hd has hfr hG
      refine ⟨fun hr => done listed a w hsz hr hg hd has hfr hG, fun i hi => ?_⟩
      obtain ⟨h1, o, ho, hready⟩ := mem_ready.1 hi
      have hlt : i < ops.size := (Array.getElem?_eq_some_iff.1 ho).1
      have hSi : listed.getD i false = false := by
        have : i < listed.size := by omega
        simp only [Array.getD_eq_getD_getElem?, Array.getElem?_eq_getElem this, Option.getD_some] at h1 ⊢
        exact h1
      refine OpSays.wpOp ho (ob i o ho a w hg (fun t htl ht => readOk _ _ _ hG i o ho hSi (fun e he hb => hready e (by simpa using he) hb) t htl ht) has) ?_
      rintro v w' ⟨hstep, hv⟩
      have hU : URow E B w w' := by
        split at hstep
        · exact URow.quiet hstep
        · exact hstep
      refine ih _ _ _ (by simpa using hsz) ?_ (hJm w w' hU hg) (by cases ho' : o.dst <;> simp [Act.put, hd]) (by cases ho' : o.dst <;> simp [Act.put, has]) (fun t ht => by rw [getD_put a o.dst v t (fun k hk => has ▸ ((spec i o ho).2.1 k hk).1), if_neg (ht i o ho)]; exact hfr t ht) ?_
      · intro l hnd hl
        have hil : i ∉ l := by
          intro hmem
          have := (hl i hmem).2
          rw [Array.getD_eq_getD_getElem?, Array.getElem?_setIfInBounds_self_of_lt (by omega)] at this
          cases this
        have := hf (i :: l) (List.nodup_cons.2 ⟨hil, hnd⟩) (fun k hk => by
          rcases List.mem_cons.1 hk with rfl | hk
          · exact ⟨hlt, h1⟩
          · have h2 := hl k hk
            have hne : i ≠ k := fun e => hil (e ▸ hk)
            rw [getD_set_ne true hne] at h2
            exact h2)
        simpa using this
      · have hset : ∀ k, (listed.setIfInBounds i true).getD k false = (listed.getD k false || k == i) := by
          intro k
          by_cases e : i = k
          · subst e
            rw [Array.getD_eq_getD_getElem?, Array.getElem?_setIfInBounds_self_of_lt (by omega)]
            simp
          · rw [getD_set_ne false e]
            have : (k == i) = false := by simp; omega
            rw [this, Bool.or_false]
        refine ⟨fun i' o' hS' ho' e he hb => ?_, fun t ht => ?_⟩
        · simp only [hset, Bool.or_eq_true, beq_iff_eq] at hS' ⊢
          rcases hS' with hS' | rfl
          · exact .inl (hG.1 i' o' hS' ho' e he hb)
          · rw [ho] at ho'; obtain rfl := Option.some.inj ho'
            exact .inl (hready e (by simpa using he) hb)
        · have hgt := hG.2 t ht
          have hput := getD_put a o.dst v t (fun k hk => has ▸ ((spec i o ho).2.1 k hk).1)
          by_cases hdt : o.dst = some t
          · have hw := ((spec i o ho).2.1 t hdt).2
            rw [hw]
            simp only [hset, beq_self_eq_true, Bool.or_true, if_true]
            right
            rw [hput, if_pos hdt]
            exact hv t hdt
          · rw [if_neg hdt] at hput
            have keep0 : (((L0 t).lin = true ∧ ∃ i, i < ops.size ∧ listed.getD i false = true ∧ q.getD i false = false) ∨ (L0 t).on w (a.tmps.getD t undef)) →
                (((L0 t).lin = true ∧ ∃ k, k < ops.size ∧ (listed.setIfInBounds i true).getD k false = true ∧ q.getD k false = false) ∨ (L0 t).on w' ((a.put o.dst v).tmps.getD t undef)) := by
              rintro (⟨hlin, i', hi', hS', hq'⟩ | h)
              · exact .inl ⟨hlin, i', hi', by rw [hset, hS']; rfl, hq'⟩
              · rw [hput]
                by_cases hqi : q.getD i false = true
                · rw [hqi, if_pos rfl] at hstep
                  exact .inr ((L0 t).m0 _ _ _ hstep h)
                · have hqi : q.getD i false = false := by simpa using hqi
                  cases hlin : (L0 t).lin with
                  | true => exact .inl ⟨rfl, i, hlt, by rw [hset]; simp, hqi⟩
                  | false => exact .inr ((L0 t).m1 hlin _ _ _ hU h)
            cases hw : writer ops t with
            | none =>
              rw [hw] at hgt
              exact keep0 hgt
            | some j =>
              rw [hw] at hgt
              have hji : j ≠ i := fun e => by
                subst e
                obtain ⟨oj, hoj, hdj⟩ := writer_spec hw
                rw [ho] at hoj; obtain rfl := Option.some.inj hoj
                exact hdt hdj
              have hjs : (listed.setIfInBounds i true).getD j false = listed.getD j false := by
                rw [hset]
                have : (j == i) = false := by simpa using hji
                rw [this, Bool.or_false]
              simp only [hjs]
              by_cases hSj : listed.getD j false = true
              · simp only [hSj, if_true] at hgt ⊢
                rcases hgt with ⟨hlin, i', hi', hS', hq', hne, hnb⟩ | h
                · exact .inl ⟨hlin, i', hi', by rw [hset, hS']; rfl, hq', hne, hnb⟩
                · rw [hput]
                  by_cases hqi : q.getD i false = true
                  · rw [hqi, if_pos rfl] at hstep
                    exact .inr ((L1 t).m0 _ _ _ hstep h)
                  · have hqi : q.getD i false = false := by simpa using hqi
                    cases hlin : (L1 t).lin with
                    | false => exact .inr ((L1 t).m1 hlin _ _ _ hU h)
                    | true =>
                      refine .inl ⟨rfl, i, hlt, by rw [hset]; simp, hqi, fun e => hji e.symm, ?_⟩
                      cases hb : ahead ops ops.size j i with
                      | false => rfl
                      | true =>
                        exfalso
                        have := ahead_closed hG.1 _ _ _ hb hSj
                        rw [this] at hSi; cases hSi
              · have hSj : listed.getD j false = false := by simpa using hSj
                simp only [hSj, Bool.false_eq_true, if_false] at hgt ⊢
                exact keep0 hgt
  have hd0 : w0.grownBy { w0 with drawn := w0.drawn + 1 } none := ⟨rfl, rfl, rfl, Nat.le_refl _, fun _ _ _ => rfl⟩
  refine key ops.size _ a0 { w0 with drawn := w0.drawn + 1 } (by simp) ?_ (hJm _ _ (URow.quiet hd0) hJ) rfl hn (fun _ _ => rfl) ⟨fun i o hS => ?_, fun t ht => ?_⟩
  · intro l hnd hl
    have : l ⊆ List.range ops.size := fun k hk => List.mem_range.2 (hl k hk).1
    have := List.Nodup.length_le_of_subset hnd this
    simpa using this
  · exfalso
    have hS : (Array.replicate ops.size false).getD i false = true := hS
    by_cases hi : i < ops.size
    · rw [Array.getD_eq_getD_getElem?, Array.getElem?_replicate, if_pos hi] at hS; cases hS
    · rw [Array.getD_eq_getD_getElem?, Array.getElem?_replicate, if_neg hi] at hS; cases hS
  · have hf : ∀ j, (Array.replicate ops.size false).getD j false = false := fun j => by
      by_cases hi : j < ops.size
      · rw [Array.getD_eq_getD_getElem?, Array.getElem?_replicate, if_pos hi]; rfl
      · rw [Array.getD_eq_getD_getElem?, Array.getElem?_replicate, if_neg hi]; rfl
    have := (L0 t).m0 _ _ _ hd0 (h0 t ht)
    cases hw : writer ops t with
    | none => exact .inr this
    | some j =>
      simp only [hf, Bool.false_eq_true, if_false]
      exact .inr this
end

end Go.Proofs.Yteakoleceoclkaa
