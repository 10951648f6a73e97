import Derived.Test.YtkeiffccllfkpaaRows
import Derived.WalkKit
import Derived.WalkLawsBesides
import Derived.ProofKit
import Derived.Handy
import Derived.WalkSpells
import Derived.Laws.CopyOwn
import Derived.Laws.BitsAllLaws
import Derived.Lib.AppendStr
import Derived.Laws.AppendOwnNone
import Derived.BigQuiet
import Derived.Deep.QuietTactic
set_option linter.unusedSimpArgs false
set_option linter.unusedVariables false
set_option maxRecDepth 100000
set_option maxHeartbeats 1000000
/- Words, regions, numbers, parsers. (merged by merge.py) -/
namespace Go.Proofs.Ytkeiffccllfkpaa
/-! ## Base -/
section
open Go.RowKit
theorem hid {p : Prop} (h : p) : Hid p := h
structure ET (P : Program) (t e : TypeId) (z : Value) (size bytes : Nat) : Prop where
 und : P.underlying t = some (.slice e)
 inf : ∃ i, P.info? e = some i ∧ i.zero = some z ∧ i.size = size ∧ i.bytes = bytes
 zsz : z.cells.size = size
 pos : 0 < size
 bnd : bytes ≤ 128
def bv (l : List Nat) : List Value := l.map fun b : Nat => .int .u8 (b : Int)
@[simp] theorem bv_nil : bv [] = [] := rfl
theorem bv_append (a b : List Nat) : bv (a ++ b) = bv a ++ bv b := by simp [bv]
theorem bv_length (a : List Nat) : (bv a).length = a.length := by simp [bv]
theorem grown_trans {a b c : World} {row : Option Nat} (h : a.grownBy b row) (k : b.grownBy c row) : a.grownBy c row :=
 ⟨k.os.trans h.os, k.tape.trans h.tape, k.output.trans h.output, Nat.le_trans h.size k.size,
   fun i hi hne => (k.block i (Nat.lt_of_lt_of_le hi h.size) hne).trans (h.block i hi hne)⟩
theorem grown_alloc {a b : World} {row : Option Nat} {o : Obj} (k : (a.alloc o).grownBy b row) : a.grownBy b row :=
 grown_trans (World.grownBy_alloc a o row) k
theorem grown_none {a b : World} {row : Option Nat} (h : a.grownBy b none) : a.grownBy b row :=
 ⟨h.os, h.tape, h.output, h.size, fun i hi _ => h.block i hi (by simp)⟩
theorem grown_below {a b : World} {row : Option Nat} (h : a.grownBy b row) {B : Nat} (hB : B ≤ a.heap.size) (hr : ∀ k, row = some k → B ≤ k) : Below B a b :=
 (Below.refl B a).grown h hB hr
theorem none_below {a b : World} (h : a.grownBy b none) : Below a.heap.size a b :=
 ⟨h.os, h.tape, h.output, h.size, fun i hi => h.block i hi (by simp)⟩
abbrev Own (w : World) (e : TypeId) (size : Nat) (v : Value) (n : Nat) (xs : List Value) : Prop := w.ownsRow 0 e size v n xs
abbrev nilS : Value := .slice none 0 0
def Step (w : World) (v : Value) (w' : World) (v' : Value) : Prop :=
 w.grownBy w' v.ownBlock ∧ ∀ k, v'.ownBlock = some k → v.ownBlock = some k ∨ (w.heap.size ≤ k)
theorem Step.refl (w : World) (v : Value) : Step w v w v := ⟨World.grownBy.refl _ _, fun _ h => .inl h⟩
theorem Step.trans {w w1 w2 : World} {v v1 v2 : Value} (h : Step w v w1 v1) (k : Step w1 v1 w2 v2) : Step w v w2 v2 := by
 have hsz := h.1.size
 refine ⟨⟨k.1.os.trans h.1.os, k.1.tape.trans h.1.tape, k.1.output.trans h.1.output, Nat.le_trans h.1.size k.1.size, fun i hi hne => ?_⟩, fun i hi => ?_⟩
 · refine (k.1.block i (by omega) fun e => ?_).trans (h.1.block i hi hne)
   rcases h.2 i e.symm with h' | h'
   · exact hne h'.symm
   · omega
 · rcases k.2 i hi with h' | h'
   · exact h.2 i h'
   · exact .inr (by omega)
theorem Step.alloc {w w' : World} {v v' : Value} {o : Obj} (k : Step (w.alloc o) v w' v') : Step w v w' v' :=
 ⟨grown_alloc k.1, fun i hi => (k.2 i hi).imp id fun h => by simp at h; omega⟩
theorem Step.grown {w w1 w' : World} {v v' : Value} (h : w.grownBy w1 none) (k : Step w1 v w' v') : Step w v w' v' :=
 Step.trans ⟨grown_none h, fun _ h => .inl h⟩ k
theorem Step.drew {w w' : World} {v v' : Value} (k : Step w.drew v w' v') : Step w v w' v' := ⟨⟨k.1.os, k.1.tape, k.1.output, k.1.size, k.1.block⟩, k.2⟩
abbrev Fresh (w : World) (w' : World) (v' : Value) : Prop := Step w nilS w' v'
theorem Step.fresh {w w' : World} {v' : Value} (h : w.grownBy w' none) (k : ∀ i, v'.ownBlock = some i → w.heap.size ≤ i) : Fresh w w' v' := ⟨h, fun i hi => .inr (k i hi)⟩
theorem Fresh.lit (w : World) (o : Obj) (n c : Nat) : Fresh w (w.alloc o) (.slice (some ⟨w.heap.size, 0, none⟩) n c) :=
 ⟨World.grownBy_alloc _ _ _, fun k hk => .inr (by simp [Value.ownBlock] at hk; omega)⟩
theorem Step.none {w w' : World} {v' : Value} (h : Fresh w w' v') : w.grownBy w' none := h.1
theorem Own.fresh {w w' : World} {e : TypeId} {size n : Nat} {v : Value} {xs : List Value} (h : w'.ownsRow w.heap.size e size v n xs) (hg : w.grownBy w' none) : Fresh w w' v :=
 ⟨hg, fun k hk => .inr (h.lt k hk).1⟩
theorem Own.nil (w : World) (e : TypeId) (size : Nat) : Own w e size nilS 0 [] := World.ownsRow_nil _ _ _ _
theorem Own.ne {w : World} {base : Nat} {e e' : TypeId} {size n : Nat} {v : Value} {xs : List Value} (h : w.ownsRow base e size v n xs) {k : Nat} {c : Array Value} {fr : Nat × Nat} (hk : w.heap[k]? = some (.cells c e' fr)) (hne : e ≠ e') : v.ownBlock ≠ some k := by
 intro hv
 rcases h.2 with ⟨rfl, _⟩ | ⟨g, cap, cur, rfl, _, hg, _⟩
 · simp [Value.ownBlock] at hv
 · simp [Value.ownBlock] at hv
   subst hv
   rw [hg] at hk
   simp at hk
   exact hne hk.2.1
theorem Own.lt {w : World} {base : Nat} {e : TypeId} {size n : Nat} {v : Value} {xs : List Value} (h : w.ownsRow base e size v n xs) : ∀ k, v.ownBlock = some k → k < w.heap.size := fun k hk => (h.lt k hk).2
def Sl (w : World) (sz : Nat) (v : Value) (n : Nat) (xs : List Value) : Prop :=
 xs.length = n * sz ∧ ∃ ao cap, v = .slice ao n cap ∧ n ≤ cap ∧ cap ≤ maxLen ∧ (ao = none → cap = 0) ∧
   (∀ a, ao = some a → a.spot = none ∧ ∀ j u, xs[j]? = some u → w.cell? ⟨a.block, a.off + j, none⟩ = some u)
theorem Sl.of_own {w : World} {base : Nat} {e : TypeId} {sz : Nat} {v : Value} {n : Nat} {xs : List Value} (h : w.ownsRow base e sz v n xs) : Sl w sz v n xs := by
 refine ⟨h.1, ?_⟩
 rcases h.2 with ⟨rfl, rfl⟩ | ⟨g, cap, cur, rfl, _, hg, hnc, hcm, _, htake⟩
 · exact ⟨none, 0, rfl, Nat.le_refl _, Nat.zero_le _, fun _ => rfl, fun a h => by cases h⟩
 · refine ⟨some ⟨g, 0, none⟩, cap, rfl, hnc, hcm, fun h => (by cases h), fun a ha => ?_⟩
   obtain rfl := Option.some.inj ha
   refine ⟨rfl, fun j u hu => ?_⟩
   have := h.cells (g := g) rfl j u hu
   rwa [show (⟨g, 0, none⟩ : Addr).add j = ⟨g, 0 + j, none⟩ by unfold Addr.add; split <;> simp_all] at this
theorem Sl.kept {w w' : World} {sz : Nat} {v : Value} {n : Nat} {xs : List Value} (h : Sl w sz v n xs) {row : Option Nat} (hg : w.grownBy w' row) (hne : v.ownBlock = none ∨ v.ownBlock ≠ row) : Sl w' sz v n xs := by
 obtain ⟨hl, ao, cap, rfl, h1, h2, h3, h4⟩ := h
 refine ⟨hl, ao, cap, rfl, h1, h2, h3, fun a ha => ?_⟩
 obtain ⟨hs, hc⟩ := h4 a ha
 refine ⟨hs, fun j u hu => ?_⟩
 subst ha
 exact hg.cell (hc j u hu) (by simpa [Value.ownBlock] using hne)
theorem Sl.below {w w' : World} {sz : Nat} {v : Value} {n : Nat} {xs : List Value} (h : Sl w sz v n xs) {B : Nat} (hb : Below B w w') (hv : ∀ k, v.ownBlock = some k → k < B) : Sl w' sz v n xs := by
 obtain ⟨hl, ao, cap, rfl, h1, h2, h3, h4⟩ := h
 refine ⟨hl, ao, cap, rfl, h1, h2, h3, fun a ha => ?_⟩
 obtain ⟨hs, hc⟩ := h4 a ha
 refine ⟨hs, fun j u hu => ?_⟩
 subst ha
 exact (hb.cell (p := ⟨a.block, a.off + j, none⟩) (hv _ (by simp [Value.ownBlock]))).trans (hc j u hu)
theorem Sl.nil (w : World) (sz : Nat) : Sl w sz (.slice none 0 0) 0 [] :=
 ⟨by simp, none, 0, rfl, Nat.le_refl _, Nat.zero_le _, fun _ => rfl, fun a h => by cases h⟩
theorem Sl.lt {w : World} {sz : Nat} {v : Value} {n : Nat} {xs : List Value} (h : Sl w sz v n xs) (hx : xs ≠ []) : ∀ k, v.ownBlock = some k → k < w.heap.size := by
 obtain ⟨hl, ao, cap, rfl, h1, h2, h3, h4⟩ := h
 intro k hk
 cases ao with
 | none => simp [Value.ownBlock] at hk
 | some a =>
   simp [Value.ownBlock] at hk
   subst hk
   obtain ⟨u, hu⟩ : ∃ u, xs[0]? = some u := by cases xs with | nil => exact absurd rfl hx | cons x l => exact ⟨x, rfl⟩
   have := block_lt_of_cell ((h4 a rfl).2 0 u hu)
   exact this
theorem Sl.shape {w : World} {sz : Nat} {v : Value} {n : Nat} {xs : List Value} (h : Sl w sz v n xs) : ∃ ao cap, v = .slice ao n cap ∧ n ≤ cap ∧ cap ≤ 9223372036854775807 := by
 obtain ⟨hl, ao, cap, rfl, h1, h2, _⟩ := h
 exact ⟨ao, cap, rfl, h1, h2⟩
theorem Sl.at {w : World} {sz : Nat} {ao : Option Addr} {n cap m : Nat} {xs : List Value} (h : Sl w sz (.slice ao n cap) m xs) (j : Nat) (hj : j < xs.length) :
   ∃ b off, ao = some ⟨b, off, none⟩ ∧ ∀ i (hi : i < xs.length), w.cell? ⟨b, off + i, none⟩ = some xs[i] := by
 obtain ⟨hl, ao', cap', hv, h1, h2, h3, h4⟩ := h
 simp only [Value.slice.injEq] at hv
 obtain ⟨rfl, rfl, rfl⟩ := hv
 cases ao with
 | none =>
   have := h3 rfl
   have : n = 0 := by omega
   subst this
   simp at hl
   subst hl
   simp at hj
 | some a =>
   obtain ⟨b, off, spot⟩ := a
   obtain ⟨hs, hc⟩ := h4 _ rfl
   simp at hs
   subst hs
   exact ⟨b, off, rfl, fun i hi => hc i _ (List.getElem?_eq_getElem hi)⟩
theorem run_app {P : Program} {t e : TypeId} {z : Value} {size bytes : Nat} (E : ET P t e z size bytes) (ty : TypeId) {w : World} {v : Value} {n : Nat} {xs : List Value} (hown : Own w e size v n xs)
   {sv : Value} {m : Nat} {news : List Value} (hs : Sl w size sv m news) (h1 : news.all Value.oneCell' = true) (h63 : n + m ≤ 1099511627776) :
   ∃ v' w', (Builtin.append_ #[t, t] ty #[v, sv]).run P w = .ok v' w' ∧ Own w' e size v' (n + m) (xs ++ news) ∧ Step w v w' v' := by
 obtain ⟨i, hi, hz, rfl, hby⟩ := E.inf
 have hb := E.bnd
 obtain ⟨hl, ao, cap, rfl, hm1, hm2, h3, h4⟩ := hs
 cases ao with
 | none =>
   obtain rfl := h3 rfl
   obtain rfl : m = 0 := by omega
   obtain rfl : news = [] := List.eq_nil_of_length_eq_zero (by simpa using hl)
   refine ⟨v, w, run_append_owned_none (P := P) w 0 t ty e i i.size E.und hi v n xs hown, by simpa using hown, Step.refl _ _⟩
 | some ad =>
   obtain ⟨b, off, spot⟩ := ad
   obtain ⟨hsp, hc⟩ := h4 _ rfl
   simp at hsp
   subst hsp
   have hc' : ∀ j u, news[j]? = some u → w.cell? ((⟨b, off, none⟩ : Addr).add j) = some u := by
     intro j u hj
     rw [Addr.add_lit]
     exact hc j u hj
   have h1' := List.all_eq_true.1 h1
   have hbytes : (n + m) * bytes ≤ 140737488355328 := by
     have : (n + m) * bytes ≤ 1099511627776 * 128 := Nat.mul_le_mul h63 hb
     omega
   obtain ⟨v', w', hr, h2, h3', _⟩ := run_append_own (P := P) w 0 t ty e i z i.size bytes E.und hi hz rfl hby E.zsz E.pos v n xs hown ⟨b, off, none⟩ m cap news hl hc' h1' (by unfold maxLen; omega) hbytes (Nat.zero_le _)
   refine ⟨v', w', hr, h2, h3', ?_⟩
   have hl2 : xs.length = n * i.size := hown.1
   rcases hown.2 with ⟨rfl, rfl⟩ | ⟨g, cap', cur, rfl, hbg, hg, hnc, hcm, hcs, htake⟩
   · by_cases hm0 : m = 0
     · subst hm0
       obtain rfl : news = [] := List.eq_nil_of_length_eq_zero (by simpa using hl)
       obtain rfl : xs = [] := List.eq_nil_of_length_eq_zero (by simpa using hl2)
       rcases h2.2 with ⟨rfl, _⟩ | ⟨g, cap', cur, rfl, _⟩
       · intro k hk; simp [Value.ownBlock] at hk
       · exfalso
         simp [Builtin.append_, run_underlying E.und, sizeOf, typeInfo, hi, Builtin.lenOf, Builtin.firstCells, loadCells, loadCellsFrom] at hr
     · have hr2 := run_append_nil (P := P) w t ty e i z E.und hi hz ⟨b, off, none⟩ m cap news hl hc' (by omega) (by omega) (by subst hby; simp only [Nat.zero_add] at hbytes; omega)
       rw [hr2] at hr
       simp only [Result.ok.injEq] at hr
       obtain ⟨rfl, _⟩ := hr
       intro k hk
       simp [Value.ownBlock] at hk
       exact .inr (by omega)
   · by_cases hroom : n + m ≤ cap'
     · have hr2 := run_append_room (P := P) w t ty e i E.und hi g n cap' cur hg ⟨b, off, none⟩ m cap news hl hc' h1' hroom (by rw [hl, hcs, ← Nat.add_mul]; exact Nat.mul_le_mul_right _ hroom)
       rw [hr2] at hr
       simp only [Result.ok.injEq] at hr
       obtain ⟨rfl, _⟩ := hr
       intro k hk
       exact .inl hk
     · have holds : ∀ j u, xs[j]? = some u → w.cell? ((⟨g, 0, none⟩ : Addr).add j) = some u := hown.cells (g := g) rfl
       have hr2 := run_append_grow (P := P) w t ty e i z E.und hi hz ⟨g, 0, none⟩ n cap' xs hl2 holds ⟨b, off, none⟩ m cap news hl hc' (by omega) (by omega) (growslice_fits (by omega) (by subst hby; exact hbytes))
       rw [hr2] at hr
       simp only [Result.ok.injEq] at hr
       obtain ⟨rfl, _⟩ := hr
       intro k hk
       simp [Value.ownBlock] at hk
       exact .inr (by omega)
theorem wpList_app {P : Program} {t e : TypeId} {z : Value} {size bytes : Nat} (E : ET P t e z size bytes) {w : World} {ops : Array Oper} {rest : List Oper} {o : Oper} {a : Act} {Q : Exit → Act → World → Prop}
   (hgd : o.guard = none) (s x : Operand) (ho : o.op = .call { callee := .builtin .append, args := #[s, x], argTypes := #[t, t] })
   (v : Value) (n : Nat) (xs : List Value) (hs : a.eval s = v) (hown : Own w e size v n xs)
   (sv : Value) (m : Nat) (news : List Value) (hx : a.eval x = sv) (hsl : Sl w size sv m news) (h1 : news.all Value.oneCell' = true) (h63 : n + m ≤ 1099511627776)
   (h : ∀ v' w', Own w' e size v' (n + m) (xs ++ news) → Step w v w' v' → wpList P ops Q rest (a.put o.dst v') w') :
   wpList P ops Q (o :: rest) a w := by
 refine wpList_plain hgd fun K hK => ?_
 obtain ⟨v', w', hr, h2, h3⟩ := run_app E o.type hown hsl h1 h63
 unfold Oper.wp execOp
 simp only [ho, resolve, invoke, builtin, Sem.run_bind, Sem.run_pure, Result.andThen_ok, List.map_toArray, List.map_cons, List.map_nil, hs, hx, hr]
 exact hK _ _ (h v' w' h2 h3)
theorem wpList_push {P : Program} {t e : TypeId} {z : Value} {size bytes : Nat} (E : ET P t e z size bytes) {w : World} {ops : Array Oper} {rest : List Oper} {o : Oper} {a : Act} {Q : Exit → Act → World → Prop}
   (hgd : o.guard = none) (s x : Operand) (ho : o.op = .call { callee := .builtin .append, args := #[s, x], argTypes := #[t, t] })
   (v : Value) (n : Nat) (xs : List Value) (hs : a.eval s = v) (hown : Own w e size v n xs)
   (c : List Value) (m : Nat) (hx : a.eval x = .slice (some ⟨w.heap.size, 0, none⟩) m m) (hl : c.length = m * size) (h1 : c.all Value.oneCell' = true)
   (h63 : n + m ≤ 1099511627776)
   (h : ∀ v' w', Own w' e size v' (n + m) (xs ++ c) → Step w v w' v' → wpList P ops Q rest (a.put o.dst v') w') :
   wpList P ops Q (o :: rest) a (w.alloc (.cells c.toArray e)) := by
 refine wpList_app E hgd s x ho v n xs hs (hown.alloc _) _ m c hx ⟨hl, some ⟨w.heap.size, 0, none⟩, m, rfl, Nat.le_refl _, by unfold maxLen; omega, fun h => (by cases h), fun ad had => ?_⟩ h1 h63 fun v' w' h2 h3 => h v' w' h2 h3.alloc
 obtain rfl := Option.some.inj had
 refine ⟨rfl, fun j u hu => ?_⟩
 rw [Nat.zero_add, World.cell?_alloc_at _ _ _ _ rfl]
 simpa using hu
/-! ### integers as bytes -/
def leb (u : Nat) : List Nat := if u < 128 then [u] else (u % 128 + 128) :: leb (u / 128)
termination_by u
decreasing_by omega
def zig (n : Int) : Nat := if n < 0 then (-2 * n - 1).toNat else (2 * n).toNat
def enc (n : Int) : List Nat := leb (zig n)
theorem leb_small {u : Nat} (h : u < 128) : leb u = [u] := by rw [leb, if_pos h]
theorem leb_big {u : Nat} (h : ¬ u < 128) : leb u = (u % 128 + 128) :: leb (u / 128) := by rw [leb, if_neg h]
theorem leb_len (k u : Nat) (h : u < 128 ^ k) (hk : 0 < k) : (leb u).length ≤ k := by
 induction k generalizing u with
 | zero => omega
 | succ k ih =>
   by_cases hu : u < 128
   · rw [leb_small hu]; simp
   · rw [leb_big hu]
     have : 0 < k := by
       rcases Nat.eq_zero_or_pos k with rfl | h'
       · simp at h; omega
       · exact h'
     have := ih (u / 128) (by rw [Nat.pow_succ] at h; omega) this
     simp; omega
theorem zig_lt {n : Int} (h0 : -9223372036854775808 ≤ n) (h1 : n ≤ 9223372036854775807) : zig n < 18446744073709551616 := by
 unfold zig; split <;> omega
theorem enc_len {n : Int} (h0 : -9223372036854775808 ≤ n) (h1 : n ≤ 9223372036854775807) : (enc n).length ≤ 10 := by
 have := zig_lt h0 h1
 exact leb_len 10 _ (Nat.lt_of_lt_of_le this (by decide)) (by decide)
theorem leb_pos (u : Nat) : 0 < (leb u).length := by
 by_cases hu : u < 128
 · rw [leb_small hu]; simp
 · rw [leb_big hu]; simp
theorem u64_not (a : Nat) (ha : a < 18446744073709551616) : bits .xor .u64 IntKind.u64.max (a : Int) = ((18446744073709551615 - a : Nat) : Int) := by
 have e : IntKind.u64.max = ((18446744073709551615 : Nat) : Int) := by decide
 rw [e, u64_xor_nat _ _ (by decide) ha]
 congr 1
 have h := BitVec.toNat_not (x := BitVec.ofNat 64 a)
 rw [← BitVec.allOnes_xor, BitVec.toNat_xor, BitVec.toNat_allOnes, BitVec.toNat_ofNat, Nat.mod_eq_of_lt (by omega)] at h
 simpa using h
theorem u64_of (n : Int) (h0 : -9223372036854775808 ≤ n) (h1 : n ≤ 9223372036854775807) : ∃ m m2 : Nat, IntKind.u64.wrap n = (m : Int) ∧ IntKind.u64.wrap ((m : Int) * 2) = (m2 : Int) ∧
   (0 ≤ n → m2 = zig n) ∧ (n < 0 → bits BinOp.xor IntKind.u64 IntKind.u64.max (m2 : Int) = (zig n : Nat)) := by
 by_cases hn : n < 0
 · refine ⟨(n + 18446744073709551616).toNat, (n*2 + 18446744073709551616).toNat, by rw [IntKind.wrap_u64]; omega, by rw [IntKind.wrap_u64]; omega, fun h => by omega, fun _ => ?_⟩
   rw [u64_not _ (by omega)]
   unfold zig; rw [if_pos hn]; omega
 · refine ⟨n.toNat, (2 * n).toNat, by rw [IntKind.wrap_u64]; omega, by rw [IntKind.wrap_u64]; omega, fun h => by unfold zig; rw [if_neg hn], fun h => absurd h hn⟩
end
/-! ## Region -/
section
open Go.RowKit
structure Sp where
 on : World → Value → Prop
 mono : ∀ w w' v, w.grownBy w' none → on w v → on w' v
def Sp.is (v : Value) : Sp := ⟨fun _ x => x = v, fun _ _ _ _ h => h⟩
def Sp.any : Sp := ⟨fun _ _ => True, fun _ _ _ _ h => h⟩
def At (L : List Sp) (t : Nat) (w : World) (v : Value) : Prop := (L.getD t Sp.any).on w v
def OpSays (P : Program) (ops : Array Oper) (o : Oper) (a : Act) (w : World) (R : Value → World → Prop) : Prop :=
 if Region.wanted o (yielded ops a.tmps) then
   match (execOp a.eval o).run P w with
   | .ok (.value v) w' => R v w'
   | .ok .skip w' => R undef w'
   | .ok (.enter f args) w' => Calls P f args w' fun e w'' => ∃ v, e = .returned v ∧ R v w''
   | _ => False
 else R undef w
theorem OpSays.wpOp {P : Program} {ops : Array Oper} {Q : Exit → Act → World → Prop} {i : Nat} {o : Oper} {a : Act} {w : World} {R : Value → World → Prop} {K : Act → World → Prop} (hi : ops[i]? = some o)
   (h : OpSays P ops o a w R) (hk : ∀ v w', R v w' → K (a.put o.dst v) w') : wpOp P ops Q i K a w := by
 unfold Go.wpOp
 simp only [hi]
 unfold OpSays at h
 split
 · rename_i hw
   rw [if_pos hw] at h
   refine .inl ?_
   unfold Oper.wp
   generalize (execOp a.eval o).run P w = r at *
   cases r with
   | ok n w' =>
     cases n <;> simp only [Oper.upon] at h ⊢
     all_goals first
       | exact h.elim
       | exact hk _ _ h
       | exact h.mono fun e w'' ⟨v, he, hr⟩ => by subst he; exact hk _ _ hr
   | halt x w' => cases x <;> exact h.elim
 · rename_i hw
   rw [if_neg hw] at h
   exact hk _ _ h
def regB (ops : Array Oper) (n : Nat) : Bool :=
 (List.range ops.size).all fun i => match ops[i]? with
   | none => true
   | some o =>
     (o.after.toList.all fun e => decide (e.on < i)) &&
     (match o.dst with | none => true | some d => decide (d < n)) &&
     (List.range ops.size).all fun j => match ops[j]? with
       | none => true
       | some oj => match oj.dst with
         | none => true
         | some d => (i == j || o.dst != some d) && (!(o.looksAt ops).contains d || o.after.toList.any fun e => e.on == j && Region.binds .any e)
theorem regB_spec {ops : Array Oper} {n : Nat} (h : regB ops n = true) {i : Nat} {o : Oper} (hi : ops[i]? = some o) :
   (∀ e ∈ o.after.toList, e.on < i) ∧ (∀ d, o.dst = some d → d < n) ∧
   (∀ j oj d, ops[j]? = some oj → oj.dst = some d → (i = j ∨ o.dst ≠ some d) ∧ (d ∈ o.looksAt ops → ∃ e ∈ o.after.toList, e.on = j ∧ Region.binds .any e = true)) := by
 have hlt : i < ops.size := (Array.getElem?_eq_some_iff.1 hi).1
 have h1 := List.all_eq_true.1 h i (List.mem_range.2 hlt)
 simp only [hi, Bool.and_eq_true] at h1
 obtain ⟨⟨h2, h3⟩, h4⟩ := h1
 refine ⟨fun e he => by simpa using List.all_eq_true.1 h2 e he, fun d hd => by simpa [hd] using h3, fun j oj d hj hd => ?_⟩
 have hjl : j < ops.size := (Array.getElem?_eq_some_iff.1 hj).1
 have h5 := List.all_eq_true.1 h4 j (List.mem_range.2 hjl)
 simp only [hj, hd, Bool.and_eq_true, Bool.or_eq_true, beq_iff_eq, bne_iff_ne, Bool.not_eq_true'] at h5
 refine ⟨h5.1, fun hl => ?_⟩
 rcases h5.2 with h6 | h6
 · rw [List.contains_iff_mem.2 hl] at h6; cases h6
 · obtain ⟨e, he, h7⟩ := List.any_eq_true.1 h6
   simp only [Bool.and_eq_true, beq_iff_eq] at h7
   exact ⟨e, he, h7⟩
theorem getD_put (a : Act) (d : Option Tmp) (v : Value) (t : Nat) (hd : ∀ k, d = some k → k < a.tmps.size) : (a.put d v).tmps.getD t undef = if d = some t then v else a.tmps.getD t undef := by
 cases d with
 | none => simp [Act.put]
 | some k =>
   have hk := hd k rfl
   simp only [Act.put, Option.some.injEq, Array.getD_eq_getD_getElem?, Array.getElem?_setIfInBounds]
   by_cases e : k = t
   · subst e; simp [hk]
   · simp [e]
theorem region_rel {P : Program} {Q : Exit → Act → World → Prop} {id : Nat} {ops : Array Oper} {a0 : Act} {w0 : World} (hm : P.follows .mixedOrders = true) (n : Nat) (L : List Sp) (hn : a0.tmps.size = n) (hB : regB ops n = true)
   (h0 : ∀ t, t < n → (∀ (i : Nat) (o : Oper), ops[i]? = some o → o.dst ≠ some t) → At L t w0 (a0.tmps.getD t undef))
   (ob : ∀ (i : Nat) (o : Oper), ops[i]? = some o → ∀ a w, w0.grownBy w none → (∀ t ∈ o.looksAt ops, t < n → At L t w (a.tmps.getD t undef)) → a.tmps.size = n →
     OpSays P ops o a w fun v w' => w.grownBy w' none ∧ ∀ d, o.dst = some d → At L d w' v)
   (hQ : ∀ a w, w0.grownBy w none → a.defers = a0.defers → a.tmps.size = n → (∀ t, t < n → At L t w (a.tmps.getD t undef)) → Q .normal a w) :
   (Code.region id ops true).wp P Q a0 w0 := by
 refine wp_region_any hm ?_
 have key : ∀ (fuel : Nat) (listed : Array Bool) (a : Act) (w : World), listed.size = ops.size → (∀ l : List Nat, l.Nodup → (∀ i ∈ l, i < ops.size ∧ listed.getD i true = false) → l.length ≤ fuel) →
     w0.grownBy w none → a.defers = a0.defers → a.tmps.size = n →
     (∀ t, t < n → ((∀ (i : Nat) (o : Oper), ops[i]? = some o → o.dst ≠ some t) ∨ ∃ (i : Nat) (o : Oper), ops[i]? = some o ∧ o.dst = some t ∧ listed.getD i false = true) → At L t w (a.tmps.getD t undef)) →
     wpAny P .any ops Q fuel listed a w := by
   intro fuel
   have done : ∀ (listed : Array Bool) (a : Act) (w : World), listed.size = ops.size → Region.ready .any ops listed = [] → w0.grownBy w none → a.defers = a0.defers → a.tmps.size = n →
     (∀ t, t < n → ((∀ (i : Nat) (o : Oper), ops[i]? = some o → o.dst ≠ some t) ∨ ∃ (i : Nat) (o : Oper), ops[i]? = some o ∧ o.dst = some t ∧ listed.getD i false = true) → At L t w (a.tmps.getD t undef)) → Q .normal a w := by
     intro listed a w hsz hr hg hd has hk
     have all : ∀ i, i < ops.size → listed.getD i false = true := by
       intro i
       induction i using Nat.strongRecOn with
       | _ i ih =>
         intro hi
         cases hl : listed.getD i false with
         | true => rfl
         | false =>
           exfalso
           have ho : ops[i]? = some ops[i] := Array.getElem?_eq_getElem hi
           have : i ∈ Region.ready .any ops listed := mem_ready.2 ⟨by
               have : i < listed.size := by omega
               simp only [Array.getD_eq_getD_getElem?, Array.getElem?_eq_getElem this, Option.getD_some] at hl ⊢
               exact hl, ops[i], ho, fun e he _ => by
               have := (regB_spec hB ho).1 e (by simpa using he)
               exact ih e.on this (by omega)⟩
           rw [hr] at this
           cases this
     refine hQ a w hg hd has fun t ht => hk t ht ?_
     by_cases hex : ∃ (i : Nat) (o : Oper), ops[i]? = some o ∧ o.dst = some t
     · obtain ⟨i, o, hi, hd⟩ := hex
       exact .inr ⟨i, o, hi, hd, all i (Array.getElem?_eq_some_iff.1 hi).1⟩
     · exact .inl fun i o hi hd => hex ⟨i, o, hi, hd⟩
   induction fuel with
   | zero =>
     intro listed a w hsz hf hg hd has hk
     have hr : Region.ready .any ops listed = [] := by
       cases hr : Region.ready .any ops listed with
       | nil => rfl
       | cons i r =>
         exfalso
         have hi : i ∈ Region.ready .any ops listed := by rw [hr]; exact List.mem_cons_self
         obtain ⟨h1, o, h2, _⟩ := mem_ready.1 hi
         have := hf [i] (by simp) (fun k hk => by simp at hk; subst hk; exact ⟨(Array.getElem?_eq_some_iff.1 h2).1, h1⟩)
         simp at this
     exact ⟨hr, done listed a w hsz hr hg hd has hk⟩
   | succ fuel ih =>
     intro listed a w hsz hf hg hd has hk
     refine ⟨fun hr => done listed a w hsz hr hg hd has hk, fun i hi => ?_⟩
     obtain ⟨h1, o, ho, hready⟩ := mem_ready.1 hi
     obtain ⟨s1, s2, s3⟩ := regB_spec hB ho
     have hlt : i < ops.size := (Array.getElem?_eq_some_iff.1 ho).1
     refine OpSays.wpOp ho (ob i o ho a w hg (fun t ht htn => hk t htn ?_) has) ?_
     · by_cases hex : ∃ (j : Nat) (oj : Oper), ops[j]? = some oj ∧ oj.dst = some t
       · obtain ⟨j, oj, hj, hdj⟩ := hex
         obtain ⟨e, he, rfl, hb⟩ := (s3 j oj t hj hdj).2 ht
         exact .inr ⟨e.on, oj, hj, hdj, hready e (by simpa using he) hb⟩
       · exact .inl fun j oj hj hdj => hex ⟨j, oj, hj, hdj⟩
     · rintro v w' ⟨hg', hv⟩
       refine ih _ _ _ (by simpa using hsz) ?_ (grown_trans hg hg') (by cases ho' : o.dst <;> simp [Act.put, hd]) (by cases ho' : o.dst <;> simp [Act.put, has]) ?_
       · intro l hnd hl
         have hil : i ∉ l := by
           intro hmem
           have := (hl i hmem).2
           rw [Array.getD_eq_getD_getElem?, Array.getElem?_setIfInBounds_self_of_lt (by omega)] at this
           cases this
         have := hf (i :: l) (List.nodup_cons.2 ⟨hil, hnd⟩) (fun k hk => by
           rcases List.mem_cons.1 hk with rfl | hk
           · exact ⟨hlt, h1⟩
           · have h2 := hl k hk
             have hne : i ≠ k := fun e => hil (e ▸ hk)
             rw [getD_set_ne true hne] at h2
             exact h2)
         simpa using this
       · intro t htn hor
         rw [getD_put a o.dst v t (fun k hk => has ▸ s2 k hk)]
         by_cases hdt : o.dst = some t
         · rw [if_pos hdt]
           exact hv t hdt
         · rw [if_neg hdt]
           refine (L.getD t Sp.any).mono _ _ _ hg' (hk t htn ?_)
           rcases hor with h | ⟨j, oj, hj, hdj, hlj⟩
           · exact .inl h
           · refine .inr ⟨j, oj, hj, hdj, ?_⟩
             have hne : i ≠ j := fun e => hdt (by subst e; rw [ho] at hj; obtain rfl := Option.some.inj hj; exact hdj)
             rwa [getD_set_ne false hne] at hlj
 refine key ops.size _ a0 { w0 with drawn := w0.drawn + 1 } (by simp) ?_ ⟨rfl, rfl, rfl, Nat.le_refl _, fun _ _ _ => rfl⟩ rfl hn ?_
 · intro l hnd hl
   have : l ⊆ List.range ops.size := fun k hk => List.mem_range.2 (hl k hk).1
   have := List.Nodup.length_le_of_subset hnd this
   simpa using this
 · intro t ht hor
   refine (L.getD t Sp.any).mono w0 _ _ ⟨rfl, rfl, rfl, Nat.le_refl _, fun _ _ _ => rfl⟩ (h0 t ht ?_)
   rcases hor with h | ⟨i, o, hi, _, hl⟩
   · exact h
   · exfalso
     have : i < ops.size := (Array.getElem?_eq_some_iff.1 hi).1
     rw [Array.getD_eq_getD_getElem?, Array.getElem?_replicate, if_pos this] at hl
     cases hl
end
/-! ## Region2 -/
section
open Go.RowKit
theorem region_gen {P : Program} {Q : Exit → Act → World → Prop} {id : Nat} {ops : Array Oper} {a0 : Act} {w0 : World} (hm : P.follows .mixedOrders = true) (n : Nat) (L : Nat → World → Value → Prop) (J : World → Prop) (D : Nat → World → Prop) (hJ : J w0.drew) (hn : a0.tmps.size = n) (hB : regB ops n = true)
   (h0 : ∀ t, t < n → (∀ (i : Nat) (o : Oper), ops[i]? = some o → o.dst ≠ some t) → L t w0.drew (a0.tmps.getD t undef))
   (ob : ∀ (i : Nat) (o : Oper), ops[i]? = some o → ∀ a w, J w → (∀ t ∈ o.looksAt ops, t < n → L t w (a.tmps.getD t undef)) → a.tmps.size = n →
     OpSays P ops o a w fun v w' => J w' ∧ (∀ t x, L t w x → L t w' x) ∧ (∀ j, j ≠ i → D j w → D j w') ∧ D i w' ∧ ∀ d, o.dst = some d → L d w' v)
   (hQ : ∀ a w, J w → a.defers = a0.defers → a.tmps.size = n → (∀ t, t < n → L t w (a.tmps.getD t undef)) → (∀ i, i < ops.size → D i w) → Q .normal a w) :
   (Code.region id ops true).wp P Q a0 w0 := by
 refine wp_region_any hm ?_
 have key : ∀ (fuel : Nat) (listed : Array Bool) (a : Act) (w : World), listed.size = ops.size → (∀ l : List Nat, l.Nodup → (∀ i ∈ l, i < ops.size ∧ listed.getD i true = false) → l.length ≤ fuel) →
     J w → a.defers = a0.defers → a.tmps.size = n →
     (∀ t, t < n → ((∀ (i : Nat) (o : Oper), ops[i]? = some o → o.dst ≠ some t) ∨ ∃ (i : Nat) (o : Oper), ops[i]? = some o ∧ o.dst = some t ∧ listed.getD i false = true) → L t w (a.tmps.getD t undef)) → (∀ i, i < ops.size → listed.getD i false = true → D i w) →
     wpAny P .any ops Q fuel listed a w := by
   intro fuel
   have done : ∀ (listed : Array Bool) (a : Act) (w : World), listed.size = ops.size → Region.ready .any ops listed = [] → J w → a.defers = a0.defers → a.tmps.size = n →
     (∀ t, t < n → ((∀ (i : Nat) (o : Oper), ops[i]? = some o → o.dst ≠ some t) ∨ ∃ (i : Nat) (o : Oper), ops[i]? = some o ∧ o.dst = some t ∧ listed.getD i false = true) → L t w (a.tmps.getD t undef)) → (∀ i, i < ops.size → listed.getD i false = true → D i w) → Q .normal a w := by
     intro listed a w hsz hr hg hd has hk hD
     have all : ∀ i, i < ops.size → listed.getD i false = true := by
       intro i
       induction i using Nat.strongRecOn with
       | _ i ih =>
         intro hi
         cases hl : listed.getD i false with
         | true => rfl
         | false =>
           exfalso
           have ho : ops[i]? = some ops[i] := Array.getElem?_eq_getElem hi
           have : i ∈ Region.ready .any ops listed := mem_ready.2 ⟨by
               have : i < listed.size := by omega
               simp only [Array.getD_eq_getD_getElem?, Array.getElem?_eq_getElem this, Option.getD_some] at hl ⊢
               exact hl, ops[i], ho, fun e he _ => by
               have := (regB_spec hB ho).1 e (by simpa using he)
               exact ih e.on this (by omega)⟩
           rw [hr] at this
           cases this
     refine hQ a w hg hd has (fun t ht => hk t ht ?_) (fun i hi => hD i hi (all i hi))
     by_cases hex : ∃ (i : Nat) (o : Oper), ops[i]? = some o ∧ o.dst = some t
     · obtain ⟨i, o, hi, hd⟩ := hex
       exact .inr ⟨i, o, hi, hd, all i (Array.getElem?_eq_some_iff.1 hi).1⟩
     · exact .inl fun i o hi hd => hex ⟨i, o, hi, hd⟩
   induction fuel with
   | zero =>
     intro listed a w hsz hf hg hd has hk hD
     have hr : Region.ready .any ops listed = [] := by
       cases hr : Region.ready .any ops listed with
       | nil => rfl
       | cons i r =>
         exfalso
         have hi : i ∈ Region.ready .any ops listed := by rw [hr]; exact List.mem_cons_self
         obtain ⟨h1, o, h2, _⟩ := mem_ready.1 hi
         have := hf [i] (by simp) (fun k hk => by simp at hk; subst hk; exact ⟨(Array.getElem?_eq_some_iff.1 h2).1, h1⟩)
         simp at this
     exact ⟨hr, done listed a w hsz hr hg hd has hk hD⟩
   | succ fuel ih =>
     intro listed a w hsz hf hg hd has hk hD
     refine ⟨fun hr => done listed a w hsz hr hg hd has hk hD, fun i hi => ?_⟩
     obtain ⟨h1, o, ho, hready⟩ := mem_ready.1 hi
     obtain ⟨s1, s2, s3⟩ := regB_spec hB ho
     have hlt : i < ops.size := (Array.getElem?_eq_some_iff.1 ho).1
     refine OpSays.wpOp ho (ob i o ho a w hg (fun t ht htn => hk t htn ?_) has) ?_
     · by_cases hex : ∃ (j : Nat) (oj : Oper), ops[j]? = some oj ∧ oj.dst = some t
       · obtain ⟨j, oj, hj, hdj⟩ := hex
         obtain ⟨e, he, rfl, hb⟩ := (s3 j oj t hj hdj).2 ht
         exact .inr ⟨e.on, oj, hj, hdj, hready e (by simpa using he) hb⟩
       · exact .inl fun j oj hj hdj => hex ⟨j, oj, hj, hdj⟩
     · rintro v w' ⟨hg', hkp, hkd, hdi, hv⟩
       refine ih _ _ _ (by simpa using hsz) ?_ hg' (by cases ho' : o.dst <;> simp [Act.put, hd]) (by cases ho' : o.dst <;> simp [Act.put, has]) ?_ ?_
       · intro l hnd hl
         have hil : i ∉ l := by
           intro hmem
           have := (hl i hmem).2
           rw [Array.getD_eq_getD_getElem?, Array.getElem?_setIfInBounds_self_of_lt (by omega)] at this
           cases this
         have := hf (i :: l) (List.nodup_cons.2 ⟨hil, hnd⟩) (fun k hk => by
           rcases List.mem_cons.1 hk with rfl | hk
           · exact ⟨hlt, h1⟩
           · have h2 := hl k hk
             have hne : i ≠ k := fun e => hil (e ▸ hk)
             rw [getD_set_ne true hne] at h2
             exact h2)
         simpa using this
       · intro t htn hor
         rw [getD_put a o.dst v t (fun k hk => has ▸ s2 k hk)]
         by_cases hdt : o.dst = some t
         · rw [if_pos hdt]
           exact hv t hdt
         · rw [if_neg hdt]
           refine hkp _ _ (hk t htn ?_)
           rcases hor with h | ⟨j, oj, hj, hdj, hlj⟩
           · exact .inl h
           · refine .inr ⟨j, oj, hj, hdj, ?_⟩
             have hne : i ≠ j := fun e => hdt (by subst e; rw [ho] at hj; obtain rfl := Option.some.inj hj; exact hdj)
             rwa [getD_set_ne false hne] at hlj
       · intro j hj hlj
         by_cases hij : i = j
         · subst hij; exact hdi
         · refine hkd j (fun e => hij e.symm) (hD j hj ?_)
           rwa [getD_set_ne false hij] at hlj
 refine key ops.size _ a0 w0.drew (by simp) ?_ hJ rfl hn ?_ ?_
 · intro l hnd hl
   have : l ⊆ List.range ops.size := fun k hk => List.mem_range.2 (hl k hk).1
   have := List.Nodup.length_le_of_subset hnd this
   simpa using this
 · intro t ht hor
   refine h0 t ht ?_
   rcases hor with h | ⟨i, o, hi, _, hl⟩
   · exact h
   · exfalso
     have : i < ops.size := (Array.getElem?_eq_some_iff.1 hi).1
     rw [Array.getD_eq_getD_getElem?, Array.getElem?_replicate, if_pos this] at hl
     cases hl
 · intro i hi hl
   exfalso
   rw [Array.getD_eq_getD_getElem?, Array.getElem?_replicate, if_pos hi] at hl
   cases hl
end
/-! ## Ints -/
section
open Go.RowKit
theorem bytesT : ET Try.prog 22 5 (.int .u8 0) 1 1 := ⟨Try.underlying22, info_parts (by kernel_rfl), rfl, by decide, by decide⟩
theorem refInt_walk (n : Int) (w : World) (h0 : -9223372036854775808 ≤ n) (h1 : n ≤ 9223372036854775807) :
   Calls Try.prog 22 #[.int .i64 n] w fun e w' => ∃ v, e = .returned v ∧ Own w' 5 1 v (enc n).length (bv (enc n)) ∧ Fresh w w' v := by
 obtain ⟨m, m2, hm, hm2, hp, hq⟩ := u64_of n h0 h1
 have hz := zig_lt h0 h1
 have hl := enc_len h0 h1
 unfold enc at *
 generalize zig n = z at *
 by_cases hn : n < 0
 all_goals
   go_enter Try.func22, Try.ntmps22
   go_wp2
   go_loopw [3, 4] (fun u v wr => ∃ (k : Nat) (l : List Nat), k < 18446744073709551616 ∧ l ++ leb k = leb z ∧ u = .int .u64 k ∧ Own wr 5 1 v l.length (bv l) ∧ Fresh w wr v) (fun u _ _ => (intOf u).toNat)
   case atStart => exact ⟨z, [], hz, rfl, rfl, by simpa using World.ownsRow_lit w #[] 0 (Nat.zero_le _) (Nat.zero_le _) rfl, Step.fresh (World.grownBy_alloc _ _ _) (by simp [Value.ownBlock])⟩
   case round =>
     obtain ⟨k, l, hk, hl1, rfl, hown, hg⟩ := hrel
     have hll : l.length + (leb k).length ≤ 10 := by rw [← List.length_append, hl1]; exact hl
     by_cases hk2 : k < 128
     · rw [leb_small hk2] at hl1 hll
       go_wp2_with (at_builtin; go_must (refine wpList_push bytesT rfl _ _ rfl _ _ _ rfl hown [_] 1 rfl rfl rfl (by simp at hll; omega) ?_; intro v' w' hown' hg'))
       go_ret
       exact ⟨_, rfl, by rw [← hl1]; simpa [bv] using hown', hg.trans hg'⟩
     · rw [leb_big hk2] at hl1 hll
       have hkd : k / 128 < 18446744073709551616 := by omega
       go_wp2_with (at_builtin; go_must (refine wpList_push bytesT rfl _ _ rfl _ _ _ rfl hown [_] 1 rfl rfl rfl (by simp at hll; omega) ?_; intro v' w' hown' hg'))
       go_roundw
       case rel => exact ⟨k / 128, l ++ [k % 128 + 128], hkd, by simpa using hl1, by go_num, by simpa [bv] using hown', hg.trans hg'⟩
       case measure => simp [intOf]; omega
theorem take_flat {α β : Type} (f : α → List β) (l : List α) (k : Nat) (h : k < l.length) : (l.take (k + 1)).flatMap f = (l.take k).flatMap f ++ f l[k] := by
 rw [List.take_succ_eq_append_getElem h]; simp only [List.flatMap_append, List.flatMap_cons, List.flatMap_nil, List.append_nil]
theorem flat_enc_len (ns : List Int) (hr : ∀ n ∈ ns, -9223372036854775808 ≤ n ∧ n ≤ 9223372036854775807) : (ns.flatMap enc).length ≤ 10 * ns.length := by
 induction ns with
 | nil => simp
 | cons a l ih =>
   have h1 := ih fun n hn => hr n (List.mem_cons_of_mem _ hn)
   have h2 := hr a List.mem_cons_self
   have h3 := enc_len h2.1 h2.2
   simp only [List.flatMap_cons, List.length_append, List.length_cons]; omega
theorem or128 (q : Nat) : q % 256 ||| 128 = q % 128 + 128 := by
 have h1 : q % 256 < 256 := Nat.mod_lt _ (by decide)
 have h2 : q % 128 = q % 256 % 128 := by omega
 rw [h2]
 generalize q % 256 = r at *
 have : ∀ r : Fin 256, r.val ||| 128 = r.val % 128 + 128 := by decide +kernel
 exact this ⟨r, h1⟩
theorem ints_walk (v s : Value) (xs : List Nat) (ns : List Int) (w : World) (hown : Own w 5 1 v xs.length (bv xs)) (hs : Sl w 1 s ns.length (ns.map (.int .i64))) (hne : s.ownBlock = none ∨ s.ownBlock ≠ v.ownBlock)
   (hr : ∀ n ∈ ns, -9223372036854775808 ≤ n ∧ n ≤ 9223372036854775807) (hlen : xs.length + 10 * ns.length ≤ 1099511627776) :
   Calls Try.prog 89 #[v, s] w fun e w' => ∃ v', e = .returned v' ∧ Own w' 5 1 v' (xs ++ ns.flatMap enc).length (bv (xs ++ ns.flatMap enc)) ∧ Step w v w' v' := by
 obtain ⟨ao, cap, rfl, hnc, hcm⟩ := hs.shape
 go_enter Try.func89, Try.ntmps89
 go_wp2
 go_loopw [0, 10] (fun b i wr => ∃ k : Nat, k ≤ ns.length ∧ i = .int .i64 k ∧ Own wr 5 1 b (xs ++ (ns.take k).flatMap enc).length (bv (xs ++ (ns.take k).flatMap enc)) ∧ Step w v wr b) (fun _ i _ => ns.length - (intOf i).toNat)
 case atStart => exact ⟨0, Nat.zero_le _, rfl, by simpa using hown, Step.refl _ _⟩
 case round =>
   obtain ⟨k, hk, rfl, hownk, hst⟩ := hrel
   by_cases hlt : k < ns.length
   · have hsk := hs.kept hst.1 hne
     obtain ⟨blk, off, rfl, hc⟩ := hsk.at k (by simpa using hlt)
     have hcell : wr.cell? ⟨blk, off + k, none⟩ = some (.int .i64 ns[k]) := (hc k (by simpa using hlt)).trans (by rw [List.getElem_map])
     have HT := hid (take_flat enc ns k hlt)
     have hrk := hr ns[k] (List.getElem_mem hlt)
     generalize ns[k] = x at *
     obtain ⟨m, m2, hm, hm2, hp, hq⟩ := u64_of x hrk.1 hrk.2
     have hz := zig_lt hrk.1 hrk.2
     have hfl := flat_enc_len (ns.take k) fun n hn => hr n (List.mem_of_mem_take hn)
     rw [List.length_take, Nat.min_eq_left (by omega)] at hfl
     have hxl : xs.length + ((ns.take k).flatMap enc).length + 10 ≤ 1099511627776 := by omega
     have hex := enc_len hrk.1 hrk.2
     have HE : Hid (enc x = leb (zig x)) := rfl
     rw [HE.out] at hex
     generalize zig x = z at *
     generalize hpre : xs ++ (ns.take k).flatMap enc = pre at *
     have hxl2 : pre.length + 10 ≤ 1099511627776 := by rw [← hpre, List.length_append]; exact hxl
     clear hc hsk hs hr hfl hxl
     have HP := hid hpre; clear hpre
     by_cases hn : x < 0
     all_goals
       go_wp2
       go_loopw [0, 7] (fun b u wr => ∃ (q : Nat) (l : List Nat), q < 18446744073709551616 ∧ l ++ leb q = pre ++ leb z ∧ u = .int .u64 q ∧ Own wr 5 1 b l.length (bv l) ∧ Step w v wr b) (fun _ u _ => (intOf u).toNat)
       case atStart => exact ⟨z, pre, hz, rfl, rfl, hownk, hst⟩
       case round =>
         obtain ⟨q, l, hq2, hl1, rfl, hownl, hstl⟩ := hrel
         have hll : l.length + (leb q).length ≤ pre.length + 10 := by rw [← List.length_append, hl1, List.length_append]; omega
         by_cases hk2 : q < 128
         · rw [leb_small hk2] at hl1 hll
           go_wp2_with (at_builtin; go_must (refine wpList_push bytesT rfl _ _ rfl _ _ _ rfl hownl [_] 1 rfl rfl rfl (by simp at hll; omega) ?_; intro v' w' hown' hg'))
           go_roundw
           case rel => exact ⟨k + 1, by omega, by go_num, by rw [HT.out, ← List.append_assoc, HP.out, HE.out, ← hl1]; simpa [bv] using hown', hstl.trans hg'⟩
           case measure => simp [intOf]; omega
         · rw [leb_big hk2] at hl1 hll
           obtain ⟨c, hc8, hc9⟩ : ∃ c : Nat, IntKind.u8.wrap (q : Int) = (c : Int) ∧ c = q % 256 := ⟨q % 256, by rw [IntKind.wrap_u8]; omega, rfl⟩
           obtain ⟨d, hd8, hd9⟩ : ∃ d : Nat, bits BinOp.or IntKind.u8 (c : Int) 128 = (d : Int) ∧ d = q % 128 + 128 := by
             refine ⟨_, u8_or_nat c 128 (by omega) (by omega), ?_⟩
             subst hc9
             exact or128 q
           have HD := hid hd9
           clear hc9 hd9
           go_wp2_with (at_builtin; go_must (refine wpList_push bytesT rfl _ _ rfl _ _ _ rfl hownl [_] 1 rfl rfl rfl (by simp at hll; omega) ?_; intro v' w' hown' hg'))
           go_roundw
           case rel => exact ⟨q / 128, l ++ [q % 128 + 128], by omega, by simpa using hl1, by go_num, by rw [← HD.out]; simpa [bv] using hown', hstl.trans hg'⟩
           case measure => simp [intOf]; omega
   · obtain rfl : k = ns.length := by omega
     go_wp2
     go_ret
     rw [List.take_length] at hownk
     exact ⟨_, rfl, hownk, hst⟩
end
/-! ## Ops -/
section
open Go.RowKit
def bs (l : List Nat) : ByteArray := ⟨(l.map fun n => UInt8.ofNat n).toArray⟩
theorem bs_push (l : List Nat) (r : ByteArray) : (l.map fun n : Nat => (n : Int)).foldl (fun r n => r.push (UInt8.ofNat n.toNat)) r = ⟨r.data ++ (l.map fun n => UInt8.ofNat n).toArray⟩ := by
 induction l generalizing r with
 | nil => simp
 | cons a l ih =>
   simp only [List.map_cons, List.foldl_cons, ih]
   congr 1
   apply Array.ext'
   simp [ByteArray.push]
theorem bs_size (l : List Nat) : (bs l).size = l.length := by simp [bs, ByteArray.size]
theorem run_conv {P : Program} (src dst e : TypeId) (hs : P.underlying src = some (.slice e)) (he : P.underlying e = some (.int .u8)) (hd : P.underlying dst = some .string) {w : World} {v : Value} {l : List Nat} (h : Sl w 1 v l.length (bv l)) :
   (convert src dst v).run P w = .ok (.string (bs l)) w := by
 obtain ⟨hl, ao, cap, rfl, h1, h2, h3, h4⟩ := h
 rw [run_convert_bytes_string w src dst e _ _ _ hs he hd]
 cases ao with
 | none =>
   have : l.length = 0 := by have := h3 rfl; omega
   obtain rfl := List.eq_nil_of_length_eq_zero this
   rfl
 | some a =>
   obtain ⟨b, off, spot⟩ := a
   obtain ⟨hsp, hc⟩ := h4 _ rfl
   simp at hsp
   subst hsp
   have hlc := run_loadCells_list (P := P) w ⟨b, off, none⟩ (bv l) (fun j u hu => by rw [Addr.add_lit]; exact hc j u hu)
   rw [bv_length] at hlc
   have := run_bytesToString (P := P) w ⟨b, off, none⟩ l.length cap (l.map fun n : Nat => (n : Int)) (by rw [hlc]; simp [bv])
   rw [this, bs_push]
   simp [bs]
def Ob (P : Program) (ops : Array Oper) (L : List Sp) (n : Nat) (w0 : World) (o : Oper) : Prop :=
 ∀ (a : Act) w, w0.grownBy w none → (∀ t ∈ o.looksAt ops, t < n → At L t w (a.tmps.getD t undef)) → a.tmps.size = n →
   OpSays P ops o a w fun v w' => w.grownBy w' none ∧ ∀ d, o.dst = some d → At L d w' v
def ObAll (P : Program) (ops : Array Oper) (L : List Sp) (n : Nat) (w0 : World) : List Oper → Prop
 | [] => True
 | o :: l => Ob P ops L n w0 o ∧ ObAll P ops L n w0 l
theorem ObAll.at {P : Program} {ops : Array Oper} {L : List Sp} {n : Nat} {w0 : World} {l : List Oper} (h : ObAll P ops L n w0 l) : ∀ (i : Nat) (o : Oper), l[i]? = some o → Ob P ops L n w0 o := by
 induction l with
 | nil => intro i o h; simp at h
 | cons x l ih =>
   intro i o hi
   cases i with
   | zero => simp at hi; subst hi; exact h.1
   | succ i => exact ih h.2 i o (by simpa using hi)
def InitP (w : World) : List Sp → List Value → List Bool → Prop
 | s :: L, v :: l, b :: bs => (b = true ∨ s.on w v) ∧ InitP w L l bs
 | _, _, _ => True
theorem InitP.at {w : World} : ∀ {L : List Sp} {l : List Value} {m : List Bool}, InitP w L l m → ∀ t, t < L.length → t < l.length → t < m.length → m.getD t false = true ∨ At L t w (l.getD t undef)
 | [], _, _, _, t, h, _, _ => by simp at h
 | _ :: _, [], _, _, t, _, h, _ => by simp at h
 | _ :: _, _ :: _, [], _, t, _, _, h => by simp at h
 | s :: L, v :: l, b :: bs, h, 0, _, _, _ => h.1
 | s :: L, v :: l, b :: bs, h, t + 1, h1, h2, h3 => InitP.at h.2 t (by simpa using h1) (by simpa using h2) (by simpa using h3)
def dstsB (ops : List Oper) (n : Nat) : List Bool := (List.range n).map fun t => ops.any fun o => o.dst == some t
theorem region_list {P : Program} {Q : Exit → Act → World → Prop} {id : Nat} {ops : List Oper} {l0 : List Value} {ds : List Deferred} {w0 : World} (hm : P.follows .mixedOrders = true) (L : List Sp) (m : List Bool)
   (hB : regB ops.toArray L.length = true) (hm2 : dstsB ops L.length = m) (hn : l0.length = L.length)
   (h0 : InitP w0 L l0 m) (ob : ObAll P ops.toArray L L.length w0 ops)
   (hQ : ∀ a w, w0.grownBy w none → a.defers = ds → a.tmps.size = L.length → (∀ t, t < L.length → At L t w (a.tmps.getD t undef)) → Q .normal a w) :
   (Code.region id ops.toArray true).wp P Q ⟨l0.toArray, ds⟩ w0 := by
 refine region_rel hm L.length L (by simpa using hn) hB ?_ (fun i o hi => ob.at i o (by simpa using hi)) hQ
 intro t ht hnd
 have hml : m.length = L.length := by rw [← hm2]; simp [dstsB]
 rcases h0.at t ht (by omega) (by omega) with h | h
 · exfalso
   rw [← hm2] at h
   simp only [dstsB, List.getD_eq_getElem?_getD, List.getElem?_map, List.getElem?_range ht, Option.map_some, Option.getD_some, List.any_eq_true, beq_iff_eq] at h
   obtain ⟨o, ho, hd⟩ := h
   obtain ⟨i, hi, rfl⟩ := List.getElem_of_mem ho
   exact hnd i ops[i] (by simp) hd
 · simpa [List.getD_eq_getElem?_getD] using h
def GOK (ops : Array Oper) (L : List Sp) (n : Nat) : Option (Nat × Bool) → Prop
 | none => True
 | some (g, b) => ∃ t, (ops[g]?).bind (·.dst) = some t ∧ t < n ∧ ∀ w v, At L t w v → v = .bool b
theorem GOK.wanted {ops : Array Oper} {L : List Sp} {n : Nat} {o : Oper} {a : Act} {w : World} (h : GOK ops L n o.guard) (hl : ∀ t ∈ o.looksAt ops, t < n → At L t w (a.tmps.getD t undef)) (hs : a.tmps.size = n) :
   Region.wanted o (yielded ops a.tmps) = true := by
 unfold Region.wanted
 cases hg : o.guard with
 | none => rfl
 | some p =>
   obtain ⟨g, b⟩ := p
   rw [hg] at h
   obtain ⟨t, ht, htn, hv⟩ := h
   have hv := hv w _ (hl t (by simp [Oper.looksAt, hg, ht]) htn)
   have htl : t < a.tmps.size := hs ▸ htn
   rw [Array.getD_eq_getD_getElem?, Array.getElem?_eq_getElem htl, Option.getD_some] at hv
   simp [yielded, ht, Array.getElem?_eq_getElem htl, hv]
section
variable {P : Program} {ops : Array Oper} {L : List Sp} {n : Nat} {w0 : World} {o : Oper}
theorem ob_run (hg : GOK ops L n o.guard) (h : ∀ (a : Act) w, w0.grownBy w none → (∀ t ∈ o.looksAt ops, t < n → At L t w (a.tmps.getD t undef)) → a.tmps.size = n → ∃ v, (execOp a.eval o).run P w = .ok (.value v) w ∧ ∀ d, o.dst = some d → At L d w v) : Ob P ops L n w0 o := by
 intro a w hw hl hs
 unfold OpSays
 rw [if_pos (hg.wanted hl hs)]
 obtain ⟨v, hr, hv⟩ := h a w hw hl hs
 rw [hr]
 exact ⟨World.grownBy.refl _ _, hv⟩
theorem ob_move (s d : Nat) (ho : o.op = .move (.tmp s)) (hd : o.dst = some d) (hs : s < n) (hg : GOK ops L n o.guard) (h : ∀ w v, At L s w v → At L d w v) : Ob P ops L n w0 o := by
 refine ob_run hg fun a w hw hl hsz => ⟨a.tmps.getD s undef, by simp [execOp, ho, Act.eval], fun d' hd' => ?_⟩
 rw [hd] at hd'
 obtain rfl := Option.some.inj hd'
 exact h w _ (hl s (by simp [Oper.looksAt, ho, Op.operands]) hs)
theorem ob_assign (s d : Nat) (ho : o.op = .assign (.tmp s)) (hd : o.dst = some d) (hs : s < n) (hg : GOK ops L n o.guard) (h : ∀ w v, At L s w v → At L d w v) : Ob P ops L n w0 o := by
 refine ob_run hg fun a w hw hl hsz => ⟨a.tmps.getD s undef, by simp [execOp, ho, Act.eval], fun d' hd' => ?_⟩
 rw [hd] at hd'
 obtain rfl := Option.some.inj hd'
 exact h w _ (hl s (by simp [Oper.looksAt, ho, Op.operands]) hs)
theorem ob_conv (s d : Nat) (src dst e : TypeId) (h1 : P.underlying src = some (.slice e)) (h2 : P.underlying e = some (.int .u8)) (h3 : P.underlying dst = some .string) (l : List Nat)
   (ho : o.op = .convert src dst (.tmp s)) (hd : o.dst = some d) (hs : s < n) (hg : GOK ops L n o.guard) (h : ∀ w v, w0.grownBy w none → At L s w v → Sl w 1 v l.length (bv l)) (hv : ∀ w, At L d w (.string (bs l))) : Ob P ops L n w0 o := by
 refine ob_run hg fun a w hw hl hsz => ⟨.string (bs l), ?_, fun d' hd' => ?_⟩
 · have := run_conv (P := P) src dst e h1 h2 h3 (h w _ hw (hl s (by simp [Oper.looksAt, ho, Op.operands]) hs))
   simp [execOp, ho, Act.eval]
   simp at this
   simp [this, Result.andThen]
 · rw [hd] at hd'
   obtain rfl := Option.some.inj hd'
   exact hv w
end
end
/-! ## Ops2 -/
section
open Go.RowKit
def OG (P : Program) (ops : Array Oper) (L : Nat → World → Value → Prop) (J : World → Prop) (D : Nat → World → Prop) (n i : Nat) (o : Oper) : Prop :=
 ∀ (a : Act) w, J w → (∀ t ∈ o.looksAt ops, t < n → L t w (a.tmps.getD t undef)) → a.tmps.size = n →
   OpSays P ops o a w fun v w' => J w' ∧ (∀ t x, L t w x → L t w' x) ∧ (∀ j, j ≠ i → D j w → D j w') ∧ D i w' ∧ ∀ d, o.dst = some d → L d w' v
def OGAll (P : Program) (ops : Array Oper) (L : Nat → World → Value → Prop) (J : World → Prop) (D : Nat → World → Prop) (n : Nat) : Nat → List Oper → Prop
 | _, [] => True
 | i, o :: l => OG P ops L J D n i o ∧ OGAll P ops L J D n (i + 1) l
theorem OGAll.at {P : Program} {ops : Array Oper} {L : Nat → World → Value → Prop} {J : World → Prop} {D : Nat → World → Prop} {n : Nat} : ∀ {l : List Oper} {k : Nat}, OGAll P ops L J D n k l → ∀ (i : Nat) (o : Oper), l[i]? = some o → OG P ops L J D n (k + i) o
 | [], _, _, i, o, hi => by simp at hi
 | x :: l, k, h, 0, o, hi => by simp at hi; subst hi; exact h.1
 | x :: l, k, h, i + 1, o, hi => by
   have := OGAll.at h.2 i o (by simpa using hi)
   rwa [show k + 1 + i = k + (i + 1) by omega] at this
def GOKG (ops : Array Oper) (L : Nat → World → Value → Prop) (n : Nat) : Option (Nat × Bool) → Prop
 | none => True
 | some (g, b) => ∃ t, (ops[g]?).bind (·.dst) = some t ∧ t < n ∧ ∀ w v, L t w v → v = .bool b
theorem GOKG.wanted {ops : Array Oper} {L : Nat → World → Value → Prop} {n : Nat} {o : Oper} {a : Act} {w : World} (h : GOKG ops L n o.guard) (hl : ∀ t ∈ o.looksAt ops, t < n → L t w (a.tmps.getD t undef)) (hs : a.tmps.size = n) :
   Region.wanted o (yielded ops a.tmps) = true := by
 unfold Region.wanted
 cases hg : o.guard with
 | none => rfl
 | some p =>
   obtain ⟨g, b⟩ := p
   rw [hg] at h
   obtain ⟨t, ht, htn, hv⟩ := h
   have hv := hv w _ (hl t (by simp [Oper.looksAt, hg, ht]) htn)
   have htl : t < a.tmps.size := hs ▸ htn
   rw [Array.getD_eq_getD_getElem?, Array.getElem?_eq_getElem htl, Option.getD_some] at hv
   simp [yielded, ht, Array.getElem?_eq_getElem htl, hv]
section
variable {P : Program} {ops : Array Oper} {L : Nat → World → Value → Prop} {J : World → Prop} {D : Nat → World → Prop} {n i : Nat} {o : Oper}
theorem og_run (hg : GOKG ops L n o.guard) (hD : ∀ w, J w → D i w) (h : ∀ (a : Act) w, J w → (∀ t ∈ o.looksAt ops, t < n → L t w (a.tmps.getD t undef)) → a.tmps.size = n → ∃ v, (execOp a.eval o).run P w = .ok (.value v) w ∧ ∀ d, o.dst = some d → L d w v) : OG P ops L J D n i o := by
 intro a w hw hl hs
 unfold OpSays
 rw [if_pos (hg.wanted hl hs)]
 obtain ⟨v, hr, hv⟩ := h a w hw hl hs
 rw [hr]
 exact ⟨hw, fun _ _ h => h, fun _ _ h => h, hD w hw, hv⟩
theorem og_skip (hg : GOKG ops L n o.guard) (hd : o.dst = none) (h : ∀ (a : Act) w, J w → (∀ t ∈ o.looksAt ops, t < n → L t w (a.tmps.getD t undef)) → a.tmps.size = n →
   ∃ w', (execOp a.eval o).run P w = .ok .skip w' ∧ J w' ∧ (∀ t x, L t w x → L t w' x) ∧ (∀ j, j ≠ i → D j w → D j w') ∧ D i w') : OG P ops L J D n i o := by
 intro a w hw hl hs
 unfold OpSays
 rw [if_pos (hg.wanted hl hs)]
 obtain ⟨w', hr, h1, h2, h3, h4⟩ := h a w hw hl hs
 rw [hr]
 exact ⟨h1, h2, h3, h4, fun d hd' => by rw [hd] at hd'; cases hd'⟩
theorem og_call (f : Nat) (args : Array Operand) (tys : Array TypeId) (ho : o.op = .call { callee := .value (.func f), args := args, argTypes := tys }) (hg : GOKG ops L n o.guard)
   (hrun : ∀ (av : Array Value) w, ((Deferred.ofValue (.func (.func f) #[] #[]) av).run P w).andThen (fun a w' => (invoke a.target a.args).run P w') = .ok (.enter f av) w)
   (hc : ∀ (a : Act) w, J w → (∀ t ∈ o.looksAt ops, t < n → L t w (a.tmps.getD t undef)) → a.tmps.size = n → Calls P f (args.map a.eval) w fun e w' => ∃ v, e = .returned v ∧ J w' ∧ (∀ t x, L t w x → L t w' x) ∧ (∀ j, j ≠ i → D j w → D j w') ∧ D i w' ∧ ∀ d, o.dst = some d → L d w' v) : OG P ops L J D n i o := by
 intro a w hw hl hs
 unfold OpSays
 rw [if_pos (hg.wanted hl hs)]
 have hr : (execOp a.eval o).run P w = .ok (.enter f (args.map a.eval)) w := by
   simp only [execOp, ho, resolve, Act.eval, Sem.run_bind]
   exact hrun (args.map a.eval) w
 rw [hr]
 exact hc a w hw hl hs
end
end
/-! ## Extend -/
section
open Go.RowKit
theorem run_grow {P : Program} {t e : TypeId} {z : Value} {size bytes : Nat} (E : ET P t e z size bytes) (ty : TypeId) {w : World} {ao : Option Addr} {n : Nat} {xs : List Value} (hv : Sl w size (.slice ao n n) n xs)
   {sv : Value} {m : Nat} {news : List Value} (hs : Sl w size sv m news) (hm : 0 < m) (h1 : news.all Value.oneCell' = true) (h63 : n + m ≤ 1099511627776) :
   ∃ v' w', (Builtin.append_ #[t, t] ty #[.slice ao n n, sv]).run P w = .ok v' w' ∧ Own w' e size v' (n + m) (xs ++ news) ∧ Fresh w w' v' := by
 obtain ⟨hlx, ao', cap', hvv, _, _, h3, h4⟩ := hv
 simp only [Value.slice.injEq] at hvv
 obtain ⟨rfl, _, rfl⟩ := hvv
 cases ao with
 | none =>
   obtain rfl := h3 rfl
   have hx : xs = [] := List.eq_nil_of_length_eq_zero (by simpa using hlx)
   subst hx
   obtain ⟨v', w', h5, h6, h7⟩ := run_app E ty (Own.nil w e size) hs h1 (by omega)
   exact ⟨v', w', h5, h6, h7⟩
 | some a =>
   obtain ⟨b, off, spot⟩ := a
   obtain ⟨hsp, hc⟩ := h4 _ rfl
   simp at hsp
   subst hsp
   obtain ⟨i, hi, hz, rfl, hby⟩ := E.inf
   have hb := E.bnd
   obtain ⟨hl, ao2, cap, rfl, hm1, hm2, h3', h4'⟩ := hs
   cases ao2 with
   | none => have := h3' rfl; omega
   | some ad =>
     obtain ⟨b2, off2, spot⟩ := ad
     obtain ⟨hsp, hc2⟩ := h4' _ rfl
     simp at hsp
     subst hsp
     have hbytes : (n + m) * bytes ≤ 140737488355328 := by
       have : (n + m) * bytes ≤ 1099511627776 * 128 := Nat.mul_le_mul h63 hb
       omega
     have hcm : grownCap w (n + m) n e ≤ maxLen := grownCap_le_maxLen w (n + m) n e (by unfold maxLen; omega)
     have hge := grownCap_ge w (n + m) n e
     refine ⟨_, _, run_append_grow (P := P) w t ty e i z E.und hi hz ⟨b, off, none⟩ n n xs hlx (fun j u hu => by rw [Addr.add_lit]; exact hc j u hu) ⟨b2, off2, none⟩ m cap news hl (fun j u hu => by rw [Addr.add_lit]; exact hc2 j u hu) (by omega) (by omega)
       (growslice_fits (by omega) (by subst hby; exact hbytes)), ⟨by rw [List.length_append, hlx, hl, Nat.add_mul], .inr ⟨w.heap.size, _, _, rfl, Nat.zero_le _, heap_alloc_new w.drew _, hge, hcm, ?_, ?_⟩⟩, ⟨⟨rfl, rfl, rfl, by simp, fun k hk _ => heap_alloc_old w.drew _ hk⟩, fun k hk => .inr ?_⟩⟩
     · have hz1 := E.zsz
       simp only [Array.size_append, List.size_toArray, size_zeroCells, hz1, hlx, hl, ← Nat.add_mul]
       congr 1
       omega
     · simp only [Array.toList_append, List.append_assoc]
       rw [← List.append_assoc, Nat.add_mul, ← hlx, ← hl, ← List.length_append]
       exact List.take_left
     · simp [Value.ownBlock] at hk
       omega
theorem wpList_grow {P : Program} {t e : TypeId} {z : Value} {size bytes : Nat} (E : ET P t e z size bytes) {w : World} {ops : Array Oper} {rest : List Oper} {o : Oper} {a : Act} {Q : Exit → Act → World → Prop}
   (hgd : o.guard = none) (s x : Operand) (ho : o.op = .call { callee := .builtin .append, args := #[s, x], argTypes := #[t, t] })
   (ao : Option Addr) (n : Nat) (xs : List Value) (hs : a.eval s = .slice ao n n) (hv : Sl w size (.slice ao n n) n xs)
   (sv : Value) (m : Nat) (news : List Value) (hx : a.eval x = sv) (hsl : Sl w size sv m news) (hm : 0 < m) (h1 : news.all Value.oneCell' = true) (h63 : n + m ≤ 1099511627776)
   (h : ∀ v' w', Own w' e size v' (n + m) (xs ++ news) → Fresh w w' v' → wpList P ops Q rest (a.put o.dst v') w') :
   wpList P ops Q (o :: rest) a w := by
 refine wpList_plain hgd fun K hK => ?_
 obtain ⟨v', w', hr, h2, h3⟩ := run_grow E o.type hv hsl hm h1 h63
 unfold Oper.wp execOp
 simp only [ho, resolve, invoke, builtin, Sem.run_bind, Sem.run_pure, Result.andThen_ok, List.map_toArray, List.map_cons, List.map_nil, hs, hx, hr]
 exact hK _ _ (h v' w' h2 h3)
theorem bv_cells (l : List Nat) : (bv l).all Value.oneCell' = true := by simp [bv, Value.oneCell']
theorem extend_walk (v s : Value) (xs ys : List Nat) (w : World) (hv : Sl w 1 v xs.length (bv xs)) (hs : Sl w 1 s ys.length (bv ys)) (hm : 0 < ys.length) (h63 : xs.length + ys.length ≤ 1099511627776) :
   Calls Try.prog 88 #[v, s] w fun e w' => ∃ v', e = .returned v' ∧ Own w' 5 1 v' (xs ++ ys).length (bv (xs ++ ys)) ∧ Fresh w w' v' := by
 obtain ⟨ao, cap, rfl, hnc, hcm⟩ := hv.shape
 obtain ⟨ao2, cap2, rfl, hnc2, hcm2⟩ := hs.shape
 go_enter Try.func88, Try.ntmps88
 have hv' : Sl w 1 (.slice ao xs.length xs.length) xs.length (bv xs) := by
   obtain ⟨h1, ao', cap', h2, h3, h4, h5, h6⟩ := hv
   simp only [Value.slice.injEq] at h2
   obtain ⟨rfl, _, rfl⟩ := h2
   exact ⟨h1, ao, _, rfl, Nat.le_refl _, by omega, fun h => by have := h5 h; omega, h6⟩
 go_wp2_with (at_builtin; go_must (refine wpList_grow bytesT rfl _ _ rfl _ _ _ rfl hv' _ _ _ rfl hs hm (bv_cells _) h63 ?_; intro v' w' hown' hg'))
 go_ret
 exact ⟨_, rfl, by rw [List.length_append, bv_append]; exact hown', hg'⟩
theorem recover_walk (w : World) : CallsD Try.prog 87 #[] .returning w fun e u' w' => e = .returned (.tuple #[]) ∧ u' = .returning ∧ w' = w := by
 refine callsD_of_wpS Try.func87 rfl fun c₀ cs hu => ?_
 apply wpS_region
 simp [wpOpsS, go_sem, recoverD, hu, Try.ntmps87]
 cases c₀
 simp_all [bodyPostS, results, Try.results87]
theorem one_sl (w : World) (c : Value) (t : TypeId) : Sl (w.alloc (.cells #[c] t)) 1 (.slice (some ⟨w.heap.size, 0, none⟩) 1 1) 1 [c] :=
 ⟨rfl, _, _, rfl, Nat.le_refl _, by decide, fun h => (by cases h), fun a ha => by
   obtain rfl := Option.some.inj ha
   refine ⟨rfl, fun j u hu => ?_⟩
   rw [Nat.zero_add, World.cell?_alloc_at _ _ _ _ rfl]
   simpa using hu⟩
theorem appendInt_walk (v : Value) (n : Int) (xs : List Nat) (w : World) (hv : Sl w 1 v xs.length (bv xs)) (hvb : ∀ k, v.ownBlock = some k → k < w.heap.size) (h0 : -9223372036854775808 ≤ n) (h1 : n ≤ 9223372036854775807) (h63 : xs.length + 10 ≤ 1099511627776) :
   Calls Try.prog 19 #[v, .int .i64 n] w fun e w' => ∃ v', e = .returned v' ∧ Own w' 5 1 v' (xs ++ enc n).length (bv (xs ++ enc n)) ∧ Fresh w w' v' := by
 have hel := enc_len h0 h1
 have hep := leb_pos (zig n)
 go_enter_defers Try.func19, Try.ntmps19
 go_wp2_with fail
 refine (ints_walk nilS _ [] [n] _ (Own.nil _ _ _) (one_sl _ _ _) (.inr (by simp [Value.ownBlock])) (by simp; omega) (by simp)).mono ?_
 rintro e w1 ⟨v1, rfl, hown1, hg1⟩
 simp only [List.nil_append, List.flatMap_cons, List.flatMap_nil, List.append_nil] at hown1
 have hg1' := hg1.alloc
 have hv1 := hv.below (none_below hg1'.1) hvb
 go_wp2_with fail
 refine (extend_walk v v1 xs (enc n) _ hv1 (Sl.of_own hown1) hep (by omega)).mono ?_
 rintro e w2 ⟨v2, rfl, hown2, hg2⟩
 go_wp2
 refine leaves_cons (f := 87) (args := #[]) (by simp) (by simp [go_sem]) ?_
 refine (recover_walk _).mono ?_
 rintro e u' w'' ⟨rfl, rfl, rfl⟩
 exact ⟨v2, results_tmp (t := 4) rfl _ _ _, _, rfl, hown2, Step.grown hg1'.1 hg2⟩
end
/-! ## Parse -/
section
open Go.RowKit
abbrev Parser (α : Type) := List Nat → Except Nat (α × List Nat)
def unzig (x : Nat) : Int := if x % 2 = 1 then -(x / 2 : Nat) - 1 else (x / 2 : Nat)
def rdI : List Nat → Nat → Nat → Except Nat (Nat × List Nat)
 | [], _, _ => .error 100
 | c :: l, i, x => if (i = 9 ∧ 1 < c) ∨ (0 < i ∧ c = 0) then .error 1 else if c < 128 then .ok (x + c % 128 * 2 ^ (7 * i), l) else rdI l (i + 1) (x + c % 128 * 2 ^ (7 * i))
def pInt : Parser Int := fun l => match rdI l 0 0 with
 | .ok (x, r) => .ok (unzig x, r)
 | .error e => .error e
def pIntIn (a b : Int) : Parser Int := fun l => match pInt l with
 | .ok (n, r) => if n < a ∨ b < n then .error 1 else .ok (n, r)
 | .error e => .error e
def pBytes (n : Nat) : Parser (List Nat) := fun l => if n ≤ l.length then .ok (l.take n, l.drop n) else .error 100
def pBind {α β : Type} (p : Parser α) (q : α → Parser β) : Parser β := fun l => match p l with
 | .ok (x, r) => q x r
 | .error e => .error e
def pPure {α : Type} (x : α) : Parser α := fun l => .ok (x, l)
abbrev St := Except Nat (List Nat)
def Rel {α : Type} (p : Parser α) (s : St) (x : α) (s' : St) : Prop :=
 match s with
 | .error e => s' = .error e
 | .ok l => match p l with
   | .ok (y, r) => y = x ∧ s' = .ok r
   | .error e => s' = .error e
theorem Rel.bind {α β : Type} {p : Parser α} {q : α → Parser β} {s s1 s2 : St} {x : α} {y : β} (h : Rel p s x s1) (k : Rel (q x) s1 y s2) : Rel (pBind p q) s y s2 := by
 unfold Rel pBind at *
 cases s with
 | error e => simp only at h; subst h; exact k
 | ok l =>
   simp only at h ⊢
   cases hp : p l with
   | error e => rw [hp] at h; simp only at h ⊢; subst h; exact k
   | ok r => rw [hp] at h; obtain ⟨y', r⟩ := r; simp only at h ⊢; obtain ⟨rfl, rfl⟩ := h; exact k
theorem Rel.pure {α : Type} (x : α) (s : St) : Rel (pPure x) s x s := by
 unfold Rel pPure
 cases s <;> simp
theorem Rel.map {α β : Type} {p : Parser α} {s s1 : St} {x : α} (f : α → β) (h : Rel p s x s1) : Rel (pBind p fun a => pPure (f a)) s (f x) s1 := h.bind (Rel.pure _ _)
theorem Rel.ok {α : Type} {p : Parser α} {l r : List Nat} {x : α} (h : Rel p (.ok l) x (.ok r)) : p l = .ok (x, r) := by
 unfold Rel at h
 simp only at h
 cases hp : p l with
 | error e => rw [hp] at h; cases h
 | ok y => rw [hp] at h; obtain ⟨y, r'⟩ := y; simp only at h; obtain ⟨rfl, h⟩ := h; cases h; rfl
theorem Rel.err {α : Type} {p : Parser α} {l : List Nat} {e : Nat} {x : α} (h : Rel p (.ok l) x (.error e)) : p l = .error e := by
 unfold Rel at h
 simp only at h
 cases hp : p l with
 | error e => rw [hp] at h; cases h; rfl
 | ok y => rw [hp] at h; obtain ⟨y, r'⟩ := y; simp only at h; cases h.2
theorem Rel.of_ok {α : Type} {p : Parser α} {l r : List Nat} {x : α} (h : p l = .ok (x, r)) : Rel p (.ok l) x (.ok r) := by unfold Rel; simp [h]
theorem Rel.of_err {α : Type} {p : Parser α} {l : List Nat} {e : Nat} {x : α} (h : p l = .error e) : Rel p (.ok l) x (.error e) := by unfold Rel; simp [h]
theorem Rel.dead {α : Type} {p : Parser α} {e : Nat} {x : α} {s : St} (h : Rel p (.error e) x s) : s = .error e := h
def Lo (v : Value) (R : Nat) : Prop := ∀ k, v.ownBlock = some k → k < R
theorem Lo.ne {v : Value} {R B : Nat} (h : Lo v R) (hB : R ≤ B) : v.ownBlock ≠ some B := fun e => by have := h _ e; omega
theorem Lo.of_eq {v v' : Value} {R : Nat} (e : v.ownBlock = v'.ownBlock) (h : Lo v' R) : Lo v R := fun k hk => h k (e ▸ hk)
theorem Lo.mono {v : Value} {R R' : Nat} (h : Lo v R) (hr : R ≤ R') : Lo v R' := fun k hk => Nat.lt_of_lt_of_le (h k hk) hr
def LoR (v : Value) (L R : Nat) : Prop := Lo v L ∧ L ≤ R
theorem LoR.ne {v : Value} {L R B : Nat} (h : LoR v L R) (hB : R ≤ B) : v.ownBlock ≠ some B := h.1.ne (Nat.le_trans h.2 hB)
theorem LoR.of_eq {v v' : Value} {L R : Nat} (e : v.ownBlock = v'.ownBlock) (h : LoR v' L R) : LoR v L R := ⟨h.1.of_eq e, h.2⟩
def RSt (T : TypeId) (L : Nat) (w : World) (R : Nat) (s : St) : Prop :=
 ∃ v l, (match s with
   | .ok r => r = l ∧ w.heap[R]? = some (.cells #[v, .int .i64 0] T (0, 0))
   | .error e => e ≠ 0 ∧ e ≤ 200 ∧ w.heap[R]? = some (.cells #[v, .int .i64 e] T (0, 0))) ∧
 Sl w 1 v l.length (bv l) ∧ LoR v L R ∧ (∀ b ∈ l, b < 256) ∧ l.length ≤ 1099511627776
theorem RSt.kept {T : TypeId} {L : Nat} {w w' : World} {R : Nat} {s : St} (h : RSt T L w R s) (hg : w.grownBy w' none) : RSt T L w' R s := by
 obtain ⟨v, l, h1, h2, h3, h4⟩ := h
 refine ⟨v, l, ?_, h2.kept hg (by cases hv : v.ownBlock <;> simp), h3, h4⟩
 cases s with
 | ok r => exact ⟨h1.1, by rw [hg.block R (Array.getElem?_eq_some_iff.1 h1.2).1 (by simp)]; exact h1.2⟩
 | error e => exact ⟨h1.1, h1.2.1, by rw [hg.block R (Array.getElem?_eq_some_iff.1 h1.2.2).1 (by simp)]; exact h1.2.2⟩
theorem RSt.past {T : TypeId} {L : Nat} {w w' : World} {R B : Nat} {s : St} (h : RSt T L w R s) (hg : w.grownBy w' (some B)) (hB : R < B) : RSt T L w' R s := by
 obtain ⟨v, l, h1, h2, h3, h4⟩ := h
 have hne : some R ≠ some B := by simp; omega
 refine ⟨v, l, ?_, h2.kept hg (.inr (h3.ne (by omega))), h3, h4⟩
 cases s with
 | ok r => exact ⟨h1.1, by rw [hg.block R (Array.getElem?_eq_some_iff.1 h1.2).1 hne]; exact h1.2⟩
 | error e => exact ⟨h1.1, h1.2.1, by rw [hg.block R (Array.getElem?_eq_some_iff.1 h1.2.2).1 hne]; exact h1.2.2⟩
theorem rdI_bound : ∀ (l : List Nat) (i x : Nat), i ≤ 9 → x < 2 ^ (7 * i) → (∀ b ∈ l, b < 256) → ∀ y r, rdI l i x = .ok (y, r) → y < 18446744073709551616
 | [], i, x, _, _, _, y, r, h => by simp [rdI] at h
 | c :: l, i, x, hi, hx, hb, y, r, h => by
   unfold rdI at h
   split at h
   · cases h
   · rename_i hc
     have hc256 := hb c List.mem_cons_self
     have hstep : x + c % 128 * 2 ^ (7 * i) < 2 ^ (7 * (i + 1)) := by
       have h1 : c % 128 ≤ 127 := by omega
       have h2 : c % 128 * 2 ^ (7 * i) ≤ 127 * 2 ^ (7 * i) := Nat.mul_le_mul_right _ h1
       have h3 : 2 ^ (7 * (i + 1)) = 128 * 2 ^ (7 * i) := by rw [show 7 * (i + 1) = 7 + 7 * i by omega, Nat.pow_add]
       omega
     split at h
     · simp only [Except.ok.injEq, Prod.mk.injEq] at h
       obtain ⟨rfl, rfl⟩ := h
       by_cases h9 : i = 9
       · subst h9
         have : c % 128 ≤ 1 := by omega
         have h2 : c % 128 * 2 ^ (7 * 9) ≤ 1 * 2 ^ (7 * 9) := Nat.mul_le_mul_right _ this
         have h3 : (2 : Nat) ^ (7 * 9) = 9223372036854775808 := by decide
         omega
       · have h4 : 2 ^ (7 * (i + 1)) ≤ 2 ^ (7 * 9) := Nat.pow_le_pow_right (by decide) (by omega)
         have h3 : (2 : Nat) ^ (7 * 9) = 9223372036854775808 := by decide
         omega
     · refine rdI_bound l (i + 1) _ (by omega) hstep (fun b hb' => hb b (List.mem_cons_of_mem _ hb')) y r h
theorem pInt_range {l : List Nat} (hb : ∀ b ∈ l, b < 256) {n : Int} {r : List Nat} (h : pInt l = .ok (n, r)) : -9223372036854775808 ≤ n ∧ n ≤ 9223372036854775807 := by
 unfold pInt at h
 cases hr : rdI l 0 0 with
 | error e => rw [hr] at h; cases h
 | ok y =>
   obtain ⟨y, r'⟩ := y
   rw [hr] at h
   simp only [Except.ok.injEq, Prod.mk.injEq] at h
   obtain ⟨rfl, rfl⟩ := h
   have := rdI_bound l 0 0 (by omega) (by decide) hb y r' hr
   unfold unzig
   split <;> omega
theorem rdI_step (x i : Nat) (hi : i ≤ 9) (hx : x < 2 ^ (7 * i)) (c : Nat) (hc : c < 256) (hok : ¬ ((i = 9 ∧ 1 < c) ∨ (0 < i ∧ c = 0))) : x ||| c % 128 * 2 ^ (7 * i) = x + c % 128 * 2 ^ (7 * i) ∧ x + c % 128 * 2 ^ (7 * i) < 18446744073709551616 ∧ c % 128 * 2 ^ (7 * i) < 18446744073709551616 ∧ x < 18446744073709551616 ∧ (¬ c < 128 → i ≤ 8 ∧ x + c % 128 * 2 ^ (7 * i) < 2 ^ (7 * (i + 1))) := by
 have hstep : x + c % 128 * 2 ^ (7 * i) < 2 ^ (7 * (i + 1)) := by
   have h1 : c % 128 ≤ 127 := by omega
   have h2 : c % 128 * 2 ^ (7 * i) ≤ 127 * 2 ^ (7 * i) := Nat.mul_le_mul_right _ h1
   have h3 : 2 ^ (7 * (i + 1)) = 128 * 2 ^ (7 * i) := by rw [show 7 * (i + 1) = 7 + 7 * i by omega, Nat.pow_add]
   omega
 have h64 : x + c % 128 * 2 ^ (7 * i) < 18446744073709551616 := by
   by_cases h9 : i = 9
   · subst h9
     have : c % 128 ≤ 1 := by omega
     have h2 : c % 128 * 2 ^ (7 * 9) ≤ 1 * 2 ^ (7 * 9) := Nat.mul_le_mul_right _ this
     have h3 : (2 : Nat) ^ (7 * 9) = 9223372036854775808 := by decide
     omega
   · have h4 : 2 ^ (7 * (i + 1)) ≤ 2 ^ (7 * 9) := Nat.pow_le_pow_right (by decide) (by omega)
     have h3 : (2 : Nat) ^ (7 * 9) = 9223372036854775808 := by decide
     omega
 refine ⟨?_, h64, by omega, by omega, fun h => ⟨by omega, hstep⟩⟩
 rw [Nat.or_comm, nat_join (7 * i) _ x (Nat.mul_mod_left _ _) hx, Nat.add_comm]
end
end Go.Proofs.Ytkeiffccllfkpaa
