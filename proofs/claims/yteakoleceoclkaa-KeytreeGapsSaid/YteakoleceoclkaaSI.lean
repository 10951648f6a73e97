/- SX: lists of numbers. -/
import Derived.Test.YteakoleceoclkaaSX4
import Derived.Test.YteakoleceoclkaaSK
namespace Go.Proofs.Yteakoleceoclkaa
open Go.RowKit
set_option linter.unusedSimpArgs false
set_option linter.unusedVariables false
theorem i64sT : ET Try.prog 37 2 (.int .i64 0) 1 8 := ⟨Try.underlying37, info_parts (by kernel_rfl), rfl, by decide, by decide⟩
theorem tyI64s (v : Value) (h : v.oneCell' = true) : TY Try.prog 37 [v] v := TY.one' Try.underlying37 rfl (by kernel_rfl) h
theorem tyInt' (x : Int) : TY Try.prog 3 [.int .i64 x] (.int .i64 x) := TY.one' Try.underlying3 rfl (by kernel_rfl) rfl
theorem tyInt64 (x : Int) : TY Try.prog 2 [.int .i64 x] (.int .i64 x) := TY.one' Try.underlying2 rfl (by kernel_rfl) rfl
/-- a number as a row's element -/
def ce (n : Int) : List Value := [.int .i64 n]
theorem ce_len (n : Int) : (ce n).length = 1 := rfl
theorem tree_mem {k : List Nat} {S R : List Int} {T : List Nd} (hT : tree k S = T) (h : ∀ a, a ∈ R ↔ a ∈ S) : tree k R = T := hT ▸ cover_congr h 34 (root k)
theorem ic_map (l : List Int) : ic l = l.map fun n => Value.int .i64 n := by
  induction l with
  | nil => rfl
  | cons x l ih => unfold ic at *; rw [List.flatMap_cons, ih]; rfl
theorem ic_one (l : List Int) : (ic l).all Value.oneCell' = true := by rw [ic_map, List.all_map]; simp [Value.oneCell']
theorem ic_set {l : List Int} {i : Nat} {v : Int} {A B C : List Value} (h : ic l = A ++ (B ++ C)) (hA : A.length = i * 1) (hB : B.length = 1) : A ++ ([.int .i64 v] ++ C) = ic (l.set i v) := by
  rw [ic_map] at h
  rw [ic_map, List.map_set, h]
  obtain ⟨b, rfl⟩ := List.length_eq_one_iff.1 hB
  rw [List.set_append_right _ _ (by omega), show i - A.length = 0 by omega]
  rfl
/-- an element of a list of numbers -/
theorem ic_at {w : World} {b off n cap : Nat} {l : List Int} (h : Sl w 1 (.slice (some ⟨b, off, none⟩) n cap) n (ic l)) {i : Nat} (hi : i < l.length) : w.rangeAt b (off + i * 1) [.int .i64 l[i]] := by
  obtain ⟨b', off', e, hc⟩ := irange h hi
  simp only [Option.some.injEq, Addr.mk.injEq] at e
  obtain ⟨rfl, rfl, _⟩ := e
  rw [Nat.mul_one]
  exact rangeAt_one hc
theorem ic_ptr {w : World} {ao : Option Addr} {n cap : Nat} {l : List Int} (h : Sl w 1 (.slice ao n cap) n (ic l)) {i : Nat} (hi : i < l.length) : ∃ b off, ao = some ⟨b, off, none⟩ := by
  obtain ⟨b', off', e, hc⟩ := irange h hi
  exact ⟨b', off', e⟩
/-- what different gives -/
def Sp.ints (B : Nat) (A : List Int) : Sp := Sp.row B 2 1 A.length (ic A)
theorem different_on {w0 : World} {l : List Int} {v : Value} {most : Nat} (hm : most ≤ 100) (hv : Sl w0 1 v l.length (ic l)) : ∀ W, w0.grownBy W none → Calls Try.prog 28 #[v, .int .i64 most] W fun e W' => ∃ u, e = .returned u ∧ W.grownBy W' none ∧ (Sp.ints w0.heap.size (difs most [] l)).on W' u := fun W g =>
  (different_walk l v most hm W (hv.kn g) (by obtain ⟨_, _, _, h1, h2⟩ := hv.shape; omega)).mono fun e W' ⟨ao, cap, h1, h2, h3⟩ => ⟨_, h1, h3.none, ao, cap, rfl, h2, fun k hk => (h3.2 k hk).elim (fun h => (by simp [Value.ownBlock] at h)) (fun h => Nat.le_trans g.size h)⟩
/-- what punctured gives -/
def Sp.ptd (l : List Nd) : Sp := ⟨fun w v => ∃ ao cap, v = .tuple #[.agg #[.slice ao l.length cap], .bool true] ∧ RdT w (.slice ao l.length cap) l, fun _ _ _ hg ⟨ao, cap, h1, h2⟩ => ⟨ao, cap, h1, h2.kn hg⟩⟩
def Sp.tr (l : List Nd) : Sp := ⟨fun w v => ∃ ao cap, v = .agg #[.slice ao l.length cap] ∧ RdT w (.slice ao l.length cap) l, fun _ _ _ hg ⟨ao, cap, h1, h2⟩ => ⟨ao, cap, h1, h2.kn hg⟩⟩
theorem ptd_tree {l : List Nd} (w : World) (u : Value) (h : (Sp.ptd l).on w u) : ∃ vs v, u = .tuple vs ∧ vs[0]? = some v ∧ (Sp.tr l).on w v := by
  obtain ⟨ao, cap, h1, h2⟩ := h
  exact ⟨_, _, h1, rfl, ao, cap, rfl, h2⟩
theorem ptd_ok {l : List Nd} (w : World) (u : Value) (h : (Sp.ptd l).on w u) : ∃ vs v, u = .tuple vs ∧ vs[1]? = some v ∧ (Sp.is (.bool true)).on w v := by
  obtain ⟨ao, cap, h1, h2⟩ := h
  exact ⟨_, _, h1, rfl, rfl⟩
theorem punctured_on {w0 : World} {k : List Nat} (hk : Dg k) {l : List Int} {v : Value} {T : List Nd} (hT : tree k l = T) (hv : Sl w0 1 v l.length (ic l)) (hl : l.length ≤ 800) (ha : ∀ a ∈ l, isAddr a = true) : ∀ W, w0.grownBy W none → Calls Try.prog 29 #[dval k, v] W fun e W' => ∃ u, e = .returned u ∧ W.grownBy W' none ∧ (Sp.ptd T).on W' u := fun W g => by
  subst hT
  exact (punctured_walk k hk l v W (hv.kn g) hl ha).mono fun e W' ⟨ao, cap, h1, h2, h3⟩ => ⟨_, h1, h3, ao, cap, rfl, h2⟩
theorem swap_mem {l : List Int} {x y : Nat} (hx : x < l.length) (hy : y < l.length) (a : Int) : a ∈ (l.set x l[y]).set y l[x] ↔ a ∈ l := (List.set_set_perm hx hy).mem_iff
end Go.Proofs.Yteakoleceoclkaa
