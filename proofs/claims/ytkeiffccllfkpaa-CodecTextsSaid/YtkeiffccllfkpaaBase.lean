/- Words and laws that every walk of this seat uses: rows of cells, what reads and what is owned, append by one law, encodings of integers. -/
import Derived.Test.YtkeiffccllfkpaaRows
import Derived.WalkKit
import Derived.WalkLawsBesides
import Derived.ProofKit
import Derived.Handy
import Derived.WalkSpells
import Derived.Laws.CopyOwn
import Derived.Laws.BitsAllLaws
import Derived.Lib.AppendStr
import Derived.Laws.AppendOwnNone
import Derived.BigQuiet
import Derived.Deep.QuietTactic
namespace Go.Proofs.Ytkeiffccllfkpaa
open Go.RowKit

/-- a fact kept from the walk -/
theorem hid {p : Prop} (h : p) : Hid p := h
/-- the facts on a slice type t of elements e -/
structure ET (P : Program) (t e : TypeId) (z : Value) (size bytes : Nat) : Prop where
  und : P.underlying t = some (.slice e)
  inf : ∃ i, P.info? e = some i ∧ i.zero = some z ∧ i.size = size ∧ i.bytes = bytes
  zsz : z.cells.size = size
  pos : 0 < size
  bnd : bytes ≤ 128

/-- bytes as cells -/
def bv (l : List Nat) : List Value := l.map fun b : Nat => .int .u8 (b : Int)
@[simp] theorem bv_nil : bv [] = [] := rfl
theorem bv_append (a b : List Nat) : bv (a ++ b) = bv a ++ bv b := by simp [bv]
theorem bv_length (a : List Nat) : (bv a).length = a.length := by simp [bv]

theorem grown_trans {a b c : World} {row : Option Nat} (h : a.grownBy b row) (k : b.grownBy c row) : a.grownBy c row :=
  ⟨k.os.trans h.os, k.tape.trans h.tape, k.output.trans h.output, Nat.le_trans h.size k.size,
    fun i hi hne => (k.block i (Nat.lt_of_lt_of_le hi h.size) hne).trans (h.block i hi hne)⟩
theorem grown_alloc {a b : World} {row : Option Nat} {o : Obj} (k : (a.alloc o).grownBy b row) : a.grownBy b row :=
  grown_trans (World.grownBy_alloc a o row) k
theorem grown_none {a b : World} {row : Option Nat} (h : a.grownBy b none) : a.grownBy b row :=
  ⟨h.os, h.tape, h.output, h.size, fun i hi _ => h.block i hi (by simp)⟩
theorem grown_below {a b : World} {row : Option Nat} (h : a.grownBy b row) {B : Nat} (hB : B ≤ a.heap.size) (hr : ∀ k, row = some k → B ≤ k) : Below B a b :=
  (Below.refl B a).grown h hB hr
theorem below_none {a b : World} (h : Below a.heap.size a b) : a.grownBy b none :=
  ⟨h.os, h.tape, h.output, h.size, fun i hi _ => h.block i hi⟩
theorem none_below {a b : World} (h : a.grownBy b none) : Below a.heap.size a b :=
  ⟨h.os, h.tape, h.output, h.size, fun i hi => h.block i hi (by simp)⟩

theorem grown_own {w wr w' : World} {e : TypeId} {sz : Nat} {v : Value} {n : Nat} {xs : List Value} {row : Option Nat} (hg : w.grownBy wr row) {base : Nat} (hown : wr.ownsRow base e sz v n xs) (hb : w.heap.size ≤ base) (hg' : wr.grownBy w' v.ownBlock) : w.grownBy w' row :=
  ⟨hg'.os.trans hg.os, hg'.tape.trans hg.tape, hg'.output.trans hg.output, Nat.le_trans hg.size hg'.size,
    fun i hi hne => (hg'.block i (Nat.lt_of_lt_of_le hi hg.size) (fun e => by have := (hown.lt i e.symm).1; omega)).trans (hg.block i hi hne)⟩

/-- v owns n elements, the cells xs, at the head of a row -/
abbrev Own (w : World) (e : TypeId) (size : Nat) (v : Value) (n : Nat) (xs : List Value) : Prop := w.ownsRow 0 e size v n xs
abbrev nilS : Value := .slice none 0 0
/-- from w, v to w', v': only v's own row was written, and v' lies in that row or in a new one -/
def Step (w : World) (v : Value) (w' : World) (v' : Value) : Prop :=
  w.grownBy w' v.ownBlock ∧ ∀ k, v'.ownBlock = some k → v.ownBlock = some k ∨ (w.heap.size ≤ k)
theorem Step.refl (w : World) (v : Value) : Step w v w v := ⟨World.grownBy.refl _ _, fun _ h => .inl h⟩
theorem Step.trans {w w1 w2 : World} {v v1 v2 : Value} (h : Step w v w1 v1) (k : Step w1 v1 w2 v2) : Step w v w2 v2 := by
  have hsz := h.1.size
  refine ⟨⟨k.1.os.trans h.1.os, k.1.tape.trans h.1.tape, k.1.output.trans h.1.output, Nat.le_trans h.1.size k.1.size, fun i hi hne => ?_⟩, fun i hi => ?_⟩
  · refine (k.1.block i (by omega) fun e => ?_).trans (h.1.block i hi hne)
    rcases h.2 i e.symm with h' | h'
    · exact hne h'.symm
    · omega
  · rcases k.2 i hi with h' | h'
    · exact h.2 i h'
    · exact .inr (by omega)
theorem Step.alloc {w w' : World} {v v' : Value} {o : Obj} (k : Step (w.alloc o) v w' v') : Step w v w' v' :=
  ⟨grown_alloc k.1, fun i hi => (k.2 i hi).imp id fun h => by simp at h; omega⟩
theorem Step.grown {w w1 w' : World} {v v' : Value} (h : w.grownBy w1 none) (k : Step w1 v w' v') : Step w v w' v' :=
  Step.trans ⟨grown_none h, fun _ h => .inl h⟩ k
theorem Step.drew {w w' : World} {v v' : Value} (k : Step w.drew v w' v') : Step w v w' v' := ⟨⟨k.1.os, k.1.tape, k.1.output, k.1.size, k.1.block⟩, k.2⟩
theorem Step.then_alloc {w w' : World} {v v' : Value} (k : Step w v w' v') (o : Obj) : Step w v (w'.alloc o) v' :=
  ⟨grown_trans k.1 (World.grownBy_alloc _ _ _), k.2⟩
/-- what a call leaves that made v' anew -/
abbrev Fresh (w : World) (w' : World) (v' : Value) : Prop := Step w nilS w' v'
theorem Step.fresh {w w' : World} {v' : Value} (h : w.grownBy w' none) (k : ∀ i, v'.ownBlock = some i → w.heap.size ≤ i) : Fresh w w' v' := ⟨h, fun i hi => .inr (k i hi)⟩
theorem Fresh.lit (w : World) (o : Obj) (n c : Nat) : Fresh w (w.alloc o) (.slice (some ⟨w.heap.size, 0, none⟩) n c) :=
  ⟨World.grownBy_alloc _ _ _, fun k hk => .inr (by simp [Value.ownBlock] at hk; omega)⟩
theorem Step.none {w w' : World} {v' : Value} (h : Fresh w w' v') : w.grownBy w' none := h.1
theorem Own.fresh {w w' : World} {e : TypeId} {size n : Nat} {v : Value} {xs : List Value} (h : w'.ownsRow w.heap.size e size v n xs) (hg : w.grownBy w' none) : Fresh w w' v :=
  ⟨hg, fun k hk => .inr (h.lt k hk).1⟩
theorem Own.of {w : World} {base : Nat} {e : TypeId} {size n : Nat} {v : Value} {xs : List Value} (h : w.ownsRow base e size v n xs) : Own w e size v n xs := by
  refine ⟨h.1, ?_⟩
  rcases h.2 with h | ⟨g, cap, cur, h1, _, h2⟩
  · exact .inl h
  · exact .inr ⟨g, cap, cur, h1, Nat.zero_le _, h2⟩
theorem Own.nil (w : World) (e : TypeId) (size : Nat) : Own w e size nilS 0 [] := World.ownsRow_nil _ _ _ _
/-- an owned row lies in a block of its element's type -/
theorem Own.ne {w : World} {base : Nat} {e e' : TypeId} {size n : Nat} {v : Value} {xs : List Value} (h : w.ownsRow base e size v n xs) {k : Nat} {c : Array Value} {fr : Nat × Nat} (hk : w.heap[k]? = some (.cells c e' fr)) (hne : e ≠ e') : v.ownBlock ≠ some k := by
  intro hv
  rcases h.2 with ⟨rfl, _⟩ | ⟨g, cap, cur, rfl, _, hg, _⟩
  · simp [Value.ownBlock] at hv
  · simp [Value.ownBlock] at hv
    subst hv
    rw [hg] at hk
    simp at hk
    exact hne hk.2.1
theorem Own.lt {w : World} {base : Nat} {e : TypeId} {size n : Nat} {v : Value} {xs : List Value} (h : w.ownsRow base e size v n xs) : ∀ k, v.ownBlock = some k → k < w.heap.size := fun k hk => (h.lt k hk).2

/-- v reads in w as n elements, the cells xs, wherever they lie -/
def Sl (w : World) (sz : Nat) (v : Value) (n : Nat) (xs : List Value) : Prop :=
  xs.length = n * sz ∧ ∃ ao cap, v = .slice ao n cap ∧ n ≤ cap ∧ cap ≤ maxLen ∧ (ao = none → cap = 0) ∧
    (∀ a, ao = some a → a.spot = none ∧ ∀ j u, xs[j]? = some u → w.cell? ⟨a.block, a.off + j, none⟩ = some u)

theorem Sl.of_own {w : World} {base : Nat} {e : TypeId} {sz : Nat} {v : Value} {n : Nat} {xs : List Value} (h : w.ownsRow base e sz v n xs) : Sl w sz v n xs := by
  refine ⟨h.1, ?_⟩
  rcases h.2 with ⟨rfl, rfl⟩ | ⟨g, cap, cur, rfl, _, hg, hnc, hcm, _, htake⟩
  · exact ⟨none, 0, rfl, Nat.le_refl _, Nat.zero_le _, fun _ => rfl, fun a h => by cases h⟩
  · refine ⟨some ⟨g, 0, none⟩, cap, rfl, hnc, hcm, fun h => (by cases h), fun a ha => ?_⟩
    obtain rfl := Option.some.inj ha
    refine ⟨rfl, fun j u hu => ?_⟩
    have := h.cells (g := g) rfl j u hu
    rwa [show (⟨g, 0, none⟩ : Addr).add j = ⟨g, 0 + j, none⟩ by unfold Addr.add; split <;> simp_all] at this

theorem Sl.kept {w w' : World} {sz : Nat} {v : Value} {n : Nat} {xs : List Value} (h : Sl w sz v n xs) {row : Option Nat} (hg : w.grownBy w' row) (hne : v.ownBlock = none ∨ v.ownBlock ≠ row) : Sl w' sz v n xs := by
  obtain ⟨hl, ao, cap, rfl, h1, h2, h3, h4⟩ := h
  refine ⟨hl, ao, cap, rfl, h1, h2, h3, fun a ha => ?_⟩
  obtain ⟨hs, hc⟩ := h4 a ha
  refine ⟨hs, fun j u hu => ?_⟩
  subst ha
  exact hg.cell (hc j u hu) (by simpa [Value.ownBlock] using hne)
theorem Sl.below {w w' : World} {sz : Nat} {v : Value} {n : Nat} {xs : List Value} (h : Sl w sz v n xs) {B : Nat} (hb : Below B w w') (hv : ∀ k, v.ownBlock = some k → k < B) : Sl w' sz v n xs := by
  obtain ⟨hl, ao, cap, rfl, h1, h2, h3, h4⟩ := h
  refine ⟨hl, ao, cap, rfl, h1, h2, h3, fun a ha => ?_⟩
  obtain ⟨hs, hc⟩ := h4 a ha
  refine ⟨hs, fun j u hu => ?_⟩
  subst ha
  exact (hb.cell (p := ⟨a.block, a.off + j, none⟩) (hv _ (by simp [Value.ownBlock]))).trans (hc j u hu)
theorem Sl.nil (w : World) (sz : Nat) : Sl w sz (.slice none 0 0) 0 [] :=
  ⟨by simp, none, 0, rfl, Nat.le_refl _, Nat.zero_le _, fun _ => rfl, fun a h => by cases h⟩
/-- below the heap's end: where something is read -/
theorem Sl.lt {w : World} {sz : Nat} {v : Value} {n : Nat} {xs : List Value} (h : Sl w sz v n xs) (hx : xs ≠ []) : ∀ k, v.ownBlock = some k → k < w.heap.size := by
  obtain ⟨hl, ao, cap, rfl, h1, h2, h3, h4⟩ := h
  intro k hk
  cases ao with
  | none => simp [Value.ownBlock] at hk
  | some a =>
    simp [Value.ownBlock] at hk
    subst hk
    obtain ⟨u, hu⟩ : ∃ u, xs[0]? = some u := by cases xs with | nil => exact absurd rfl hx | cons x l => exact ⟨x, rfl⟩
    have := block_lt_of_cell ((h4 a rfl).2 0 u hu)
    exact this
theorem Sl.shape {w : World} {sz : Nat} {v : Value} {n : Nat} {xs : List Value} (h : Sl w sz v n xs) : ∃ ao cap, v = .slice ao n cap ∧ n ≤ cap ∧ cap ≤ 9223372036854775807 := by
  obtain ⟨hl, ao, cap, rfl, h1, h2, _⟩ := h
  exact ⟨ao, cap, rfl, h1, h2⟩
/-- the cell of one element -/
theorem Sl.at {w : World} {sz : Nat} {ao : Option Addr} {n cap m : Nat} {xs : List Value} (h : Sl w sz (.slice ao n cap) m xs) (j : Nat) (hj : j < xs.length) :
    ∃ b off, ao = some ⟨b, off, none⟩ ∧ ∀ i (hi : i < xs.length), w.cell? ⟨b, off + i, none⟩ = some xs[i] := by
  obtain ⟨hl, ao', cap', hv, h1, h2, h3, h4⟩ := h
  simp only [Value.slice.injEq] at hv
  obtain ⟨rfl, rfl, rfl⟩ := hv
  cases ao with
  | none =>
    have := h3 rfl
    have : n = 0 := by omega
    subst this
    simp at hl
    subst hl
    simp at hj
  | some a =>
    obtain ⟨b, off, spot⟩ := a
    obtain ⟨hs, hc⟩ := h4 _ rfl
    simp at hs
    subst hs
    exact ⟨b, off, rfl, fun i hi => hc i _ (List.getElem?_eq_getElem hi)⟩

/-- THE APPEND of a slice, whatever it is, to an owned one -/
theorem run_app {P : Program} {t e : TypeId} {z : Value} {size bytes : Nat} (E : ET P t e z size bytes) (ty : TypeId) {w : World} {v : Value} {n : Nat} {xs : List Value} (hown : Own w e size v n xs)
    {sv : Value} {m : Nat} {news : List Value} (hs : Sl w size sv m news) (h1 : news.all Value.oneCell' = true) (h63 : n + m ≤ 1099511627776) :
    ∃ v' w', (Builtin.append_ #[t, t] ty #[v, sv]).run P w = .ok v' w' ∧ Own w' e size v' (n + m) (xs ++ news) ∧ Step w v w' v' := by
  obtain ⟨i, hi, hz, rfl, hby⟩ := E.inf
  have hb := E.bnd
  obtain ⟨hl, ao, cap, rfl, hm1, hm2, h3, h4⟩ := hs
  cases ao with
  | none =>
    obtain rfl := h3 rfl
    obtain rfl : m = 0 := by omega
    obtain rfl : news = [] := List.eq_nil_of_length_eq_zero (by simpa using hl)
    refine ⟨v, w, run_append_owned_none (P := P) w 0 t ty e i i.size E.und hi v n xs hown, by simpa using hown, Step.refl _ _⟩
  | some ad =>
    obtain ⟨b, off, spot⟩ := ad
    obtain ⟨hsp, hc⟩ := h4 _ rfl
    simp at hsp
    subst hsp
    have hc' : ∀ j u, news[j]? = some u → w.cell? ((⟨b, off, none⟩ : Addr).add j) = some u := by
      intro j u hj
      rw [Addr.add_lit]
      exact hc j u hj
    have h1' := List.all_eq_true.1 h1
    have hbytes : (n + m) * bytes ≤ 140737488355328 := by
      have : (n + m) * bytes ≤ 1099511627776 * 128 := Nat.mul_le_mul h63 hb
      omega
    obtain ⟨v', w', hr, h2, h3', _⟩ := run_append_own (P := P) w 0 t ty e i z i.size bytes E.und hi hz rfl hby E.zsz E.pos v n xs hown ⟨b, off, none⟩ m cap news hl hc' h1' (by unfold maxLen; omega) hbytes (Nat.zero_le _)
    refine ⟨v', w', hr, h2, h3', ?_⟩
    have hl2 : xs.length = n * i.size := hown.1
    rcases hown.2 with ⟨rfl, rfl⟩ | ⟨g, cap', cur, rfl, hbg, hg, hnc, hcm, hcs, htake⟩
    · by_cases hm0 : m = 0
      · subst hm0
        obtain rfl : news = [] := List.eq_nil_of_length_eq_zero (by simpa using hl)
        obtain rfl : xs = [] := List.eq_nil_of_length_eq_zero (by simpa using hl2)
        rcases h2.2 with ⟨rfl, _⟩ | ⟨g, cap', cur, rfl, _⟩
        · intro k hk; simp [Value.ownBlock] at hk
        · exfalso
          simp [Builtin.append_, run_underlying E.und, sizeOf, typeInfo, hi, Builtin.lenOf, Builtin.firstCells, loadCells, loadCellsFrom] at hr
      · have hr2 := run_append_nil (P := P) w t ty e i z E.und hi hz ⟨b, off, none⟩ m cap news hl hc' (by omega) (by omega) (by subst hby; simp only [Nat.zero_add] at hbytes; omega)
        rw [hr2] at hr
        simp only [Result.ok.injEq] at hr
        obtain ⟨rfl, _⟩ := hr
        intro k hk
        simp [Value.ownBlock] at hk
        exact .inr (by omega)
    · by_cases hroom : n + m ≤ cap'
      · have hr2 := run_append_room (P := P) w t ty e i E.und hi g n cap' cur hg ⟨b, off, none⟩ m cap news hl hc' h1' hroom (by rw [hl, hcs, ← Nat.add_mul]; exact Nat.mul_le_mul_right _ hroom)
        rw [hr2] at hr
        simp only [Result.ok.injEq] at hr
        obtain ⟨rfl, _⟩ := hr
        intro k hk
        exact .inl hk
      · have holds : ∀ j u, xs[j]? = some u → w.cell? ((⟨g, 0, none⟩ : Addr).add j) = some u := hown.cells (g := g) rfl
        have hr2 := run_append_grow (P := P) w t ty e i z E.und hi hz ⟨g, 0, none⟩ n cap' xs hl2 holds ⟨b, off, none⟩ m cap news hl hc' (by omega) (by omega) (growslice_fits (by omega) (by subst hby; exact hbytes))
        rw [hr2] at hr
        simp only [Result.ok.injEq] at hr
        obtain ⟨rfl, _⟩ := hr
        intro k hk
        simp [Value.ownBlock] at hk
        exact .inr (by omega)

/-- the same at an operation -/
theorem wpList_app {P : Program} {t e : TypeId} {z : Value} {size bytes : Nat} (E : ET P t e z size bytes) {w : World} {ops : Array Oper} {rest : List Oper} {o : Oper} {a : Act} {Q : Exit → Act → World → Prop}
    (hgd : o.guard = none) (s x : Operand) (ho : o.op = .call { callee := .builtin .append, args := #[s, x], argTypes := #[t, t] })
    (v : Value) (n : Nat) (xs : List Value) (hs : a.eval s = v) (hown : Own w e size v n xs)
    (sv : Value) (m : Nat) (news : List Value) (hx : a.eval x = sv) (hsl : Sl w size sv m news) (h1 : news.all Value.oneCell' = true) (h63 : n + m ≤ 1099511627776)
    (h : ∀ v' w', Own w' e size v' (n + m) (xs ++ news) → Step w v w' v' → wpList P ops Q rest (a.put o.dst v') w') :
    wpList P ops Q (o :: rest) a w := by
  refine wpList_plain hgd fun K hK => ?_
  obtain ⟨v', w', hr, h2, h3⟩ := run_app E o.type hown hsl h1 h63
  unfold Oper.wp execOp
  simp only [ho, resolve, invoke, builtin, Sem.run_bind, Sem.run_pure, Result.andThen_ok, List.map_toArray, List.map_cons, List.map_nil, hs, hx, hr]
  exact hK _ _ (h v' w' h2 h3)

/-- append of cells that were just laid in a new block -/
theorem wpList_push {P : Program} {t e : TypeId} {z : Value} {size bytes : Nat} (E : ET P t e z size bytes) {w : World} {ops : Array Oper} {rest : List Oper} {o : Oper} {a : Act} {Q : Exit → Act → World → Prop}
    (hgd : o.guard = none) (s x : Operand) (ho : o.op = .call { callee := .builtin .append, args := #[s, x], argTypes := #[t, t] })
    (v : Value) (n : Nat) (xs : List Value) (hs : a.eval s = v) (hown : Own w e size v n xs)
    (c : List Value) (m : Nat) (hx : a.eval x = .slice (some ⟨w.heap.size, 0, none⟩) m m) (hl : c.length = m * size) (h1 : c.all Value.oneCell' = true)
    (h63 : n + m ≤ 1099511627776)
    (h : ∀ v' w', Own w' e size v' (n + m) (xs ++ c) → Step w v w' v' → wpList P ops Q rest (a.put o.dst v') w') :
    wpList P ops Q (o :: rest) a (w.alloc (.cells c.toArray e)) := by
  refine wpList_app E hgd s x ho v n xs hs (hown.alloc _) _ m c hx ⟨hl, some ⟨w.heap.size, 0, none⟩, m, rfl, Nat.le_refl _, by unfold maxLen; omega, fun h => (by cases h), fun ad had => ?_⟩ h1 h63 fun v' w' h2 h3 => h v' w' h2 h3.alloc
  obtain rfl := Option.some.inj had
  refine ⟨rfl, fun j u hu => ?_⟩
  rw [Nat.zero_add, World.cell?_alloc_at _ _ _ _ rfl]
  simpa using hu

/-- append of a string's bytes -/
theorem wpList_appstr {P : Program} {t u e : TypeId} (E : ET P t e (.int .u8 0) 1 1) (hu : P.underlying u = some .string) {w : World} {ops : Array Oper} {rest : List Oper} {o : Oper} {a : Act} {Q : Exit → Act → World → Prop}
    (hgd : o.guard = none) (s x : Operand) (ho : o.op = .call { callee := .builtin .append, args := #[s, x], argTypes := #[t, u] })
    (v : Value) (n : Nat) (xs : List Value) (hs : a.eval s = v) (hown : Own w e 1 v n xs) (str : ByteArray) (hx : a.eval x = .string str) (h63 : n + str.size ≤ 1099511627776)
    (h : ∀ v' w', Own w' e 1 v' (n + str.size) (xs ++ Lib.strCells str) → Step w v w' v' → wpList P ops Q rest (a.put o.dst v') w') :
    wpList P ops Q (o :: rest) a w := by
  refine wpList_plain hgd fun K hK => ?_
  obtain ⟨i, hi, hz, hsz, hby⟩ := E.inf
  obtain ⟨v', w', hr, h2, h3, h4⟩ := Lib.run_append_own_string (P := P) w 0 t u o.type e i E.und hu hi hz hsz hby v n xs hown str (by unfold maxLen; omega) (by omega) (Nat.zero_le _)
  have h5 : Step w v w' v' := by
    refine ⟨h3, ?_⟩
    have hl2 : xs.length = n := by simpa using hown.1
    rcases hown.2 with ⟨rfl, rfl⟩ | ⟨g, cap', cur, rfl, hbg, hg, hnc, hcm, hcs, htake⟩
    · by_cases hm0 : str.size = 0
      · have := h4.2 ⟨rfl, hm0⟩
        subst this
        intro k hk; simp [Value.ownBlock] at hk
      · have hr2 := run_append_nil_string (P := P) w t u o.type e i (.int .u8 0) E.und hu hi hz str (by omega) (by omega) (by rw [hby]; omega)
        rw [hr2] at hr
        simp only [Result.ok.injEq] at hr
        obtain ⟨rfl, _⟩ := hr
        intro k hk
        simp [Value.ownBlock] at hk
        exact .inr (by omega)
    · by_cases hroom : n + str.size ≤ cap'
      · have hr2 := Lib.run_append_room_string (P := P) w t u o.type e i E.und hu hi hsz g n cap' cur hg str hroom (by omega)
        rw [hr2] at hr
        simp only [Result.ok.injEq] at hr
        obtain ⟨rfl, _⟩ := hr
        intro k hk
        exact .inl hk
      · have holds : ∀ j u, xs[j]? = some u → w.cell? ((⟨g, 0, none⟩ : Addr).add j) = some u := hown.cells (g := g) rfl
        have hr2 := Lib.run_append_grow_string (P := P) w t u o.type e i (.int .u8 0) E.und hu hi hz ⟨g, 0, none⟩ n cap' xs (by rw [hsz]; omega) holds str (by omega) (by omega) (growslice_fits (by omega) (by rw [hby]; omega))
        rw [hr2] at hr
        simp only [Result.ok.injEq] at hr
        obtain ⟨rfl, _⟩ := hr
        intro k hk
        simp [Value.ownBlock] at hk
        exact .inr (by omega)
  unfold Oper.wp execOp
  simp only [ho, resolve, invoke, builtin, Sem.run_bind, Sem.run_pure, Result.andThen_ok, List.map_toArray, List.map_cons, List.map_nil, hs, hx, hr]
  exact hK _ _ (h v' w' h2 h5)

/-! ### integers as bytes -/
def leb (u : Nat) : List Nat := if u < 128 then [u] else (u % 128 + 128) :: leb (u / 128)
termination_by u
decreasing_by omega
def zig (n : Int) : Nat := if n < 0 then (-2 * n - 1).toNat else (2 * n).toNat
def enc (n : Int) : List Nat := leb (zig n)
theorem leb_small {u : Nat} (h : u < 128) : leb u = [u] := by rw [leb, if_pos h]
theorem leb_big {u : Nat} (h : ¬ u < 128) : leb u = (u % 128 + 128) :: leb (u / 128) := by rw [leb, if_neg h]
theorem leb_len (k u : Nat) (h : u < 128 ^ k) (hk : 0 < k) : (leb u).length ≤ k := by
  induction k generalizing u with
  | zero => omega
  | succ k ih =>
    by_cases hu : u < 128
    · rw [leb_small hu]; simp
    · rw [leb_big hu]
      have : 0 < k := by
        rcases Nat.eq_zero_or_pos k with rfl | h'
        · simp at h; omega
        · exact h'
      have := ih (u / 128) (by rw [Nat.pow_succ] at h; omega) this
      simp; omega
theorem zig_lt {n : Int} (h0 : -9223372036854775808 ≤ n) (h1 : n ≤ 9223372036854775807) : zig n < 18446744073709551616 := by
  unfold zig; split <;> omega
theorem enc_len {n : Int} (h0 : -9223372036854775808 ≤ n) (h1 : n ≤ 9223372036854775807) : (enc n).length ≤ 10 := by
  have := zig_lt h0 h1
  exact leb_len 10 _ (Nat.lt_of_lt_of_le this (by decide)) (by decide)
theorem leb_pos (u : Nat) : 0 < (leb u).length := by
  by_cases hu : u < 128
  · rw [leb_small hu]; simp
  · rw [leb_big hu]; simp
theorem leb_byte (u : Nat) : ∀ b ∈ leb u, b < 256 := by
  induction u using leb.induct with
  | case1 u h => rw [leb_small h]; simp; omega
  | case2 u h ih =>
    rw [leb_big h]
    intro b hb
    simp at hb
    rcases hb with rfl | hb
    · omega
    · exact ih b hb
theorem enc_byte (n : Int) : ∀ b ∈ enc n, b < 256 := leb_byte _
theorem u64_not (a : Nat) (ha : a < 18446744073709551616) : bits .xor .u64 IntKind.u64.max (a : Int) = ((18446744073709551615 - a : Nat) : Int) := by
  have e : IntKind.u64.max = ((18446744073709551615 : Nat) : Int) := by decide
  rw [e, u64_xor_nat _ _ (by decide) ha]
  congr 1
  have h := BitVec.toNat_not (x := BitVec.ofNat 64 a)
  rw [← BitVec.allOnes_xor, BitVec.toNat_xor, BitVec.toNat_allOnes, BitVec.toNat_ofNat, Nat.mod_eq_of_lt (by omega)] at h
  simpa using h
/-- a number as a uint64, shifted and turned: its zigzag -/
theorem u64_of (n : Int) (h0 : -9223372036854775808 ≤ n) (h1 : n ≤ 9223372036854775807) : ∃ m m2 : Nat, IntKind.u64.wrap n = (m : Int) ∧ IntKind.u64.wrap ((m : Int) * 2) = (m2 : Int) ∧
    (0 ≤ n → m2 = zig n) ∧ (n < 0 → bits BinOp.xor IntKind.u64 IntKind.u64.max (m2 : Int) = (zig n : Nat)) := by
  by_cases hn : n < 0
  · refine ⟨(n + 18446744073709551616).toNat, (n*2 + 18446744073709551616).toNat, by rw [IntKind.wrap_u64]; omega, by rw [IntKind.wrap_u64]; omega, fun h => by omega, fun _ => ?_⟩
    rw [u64_not _ (by omega)]
    unfold zig; rw [if_pos hn]; omega
  · refine ⟨n.toNat, (2 * n).toNat, by rw [IntKind.wrap_u64]; omega, by rw [IntKind.wrap_u64]; omega, fun h => by unfold zig; rw [if_neg hn], fun h => absurd h hn⟩
end Go.Proofs.Ytkeiffccllfkpaa
