/- Key trees: the functions as laws call them. -/
import Derived.Test.YteakoleceoclkaaK16
namespace Go.Proofs.Yteakoleceoclkaa
open Go.RowKit Go.Shelf
set_option linter.unusedSimpArgs false
set_option linter.unusedVariables false

/-- a slice reads as a tree -/
def RdT (w : World) (s : Value) (l : List Nd) : Prop := Sl w 34 s l.length (tcells l) ∧ (∀ n ∈ l, Nok n) ∧ (∀ k, s.ownBlock = some k → k < w.heap.size) ∧ l.length ≤ 1099511627776
theorem RdT.kn {w w' : World} {s : Value} {l : List Nd} (h : RdT w s l) (g : w.grownBy w' none) : RdT w' s l := ⟨Sl.kn h.1 g, h.2.1, fun k hk => Nat.lt_of_lt_of_le (h.2.2.1 k hk) g.size, h.2.2.2⟩
theorem RdT.shape {w : World} {s : Value} {l : List Nd} (h : RdT w s l) : ∃ ao cap, s = .slice ao l.length cap := by
  obtain ⟨ao, cap, e, _, _⟩ := Sl.shape h.1
  exact ⟨ao, cap, e⟩
theorem toK : ∀ (l : List Nd), (∀ n ∈ l, Nok n) → ∃ L : List NdK, L.map (·.1) = l
  | [], _ => ⟨[], rfl⟩
  | n :: l, h => by
    obtain ⟨L, hL⟩ := toK l fun m hm => h m (List.mem_cons.2 (.inr hm))
    exact ⟨⟨n, h n (List.mem_cons.2 (.inl rfl))⟩ :: L, by rw [List.map_cons, hL]⟩
theorem RdT.k {w : World} {s : Value} {l : List Nd} (h : RdT w s l) : ∃ L : List NdK, L.map (·.1) = l ∧ RdL w s L := by
  obtain ⟨L, rfl⟩ := toK l h.2.1
  exact ⟨L, rfl, ⟨h.1, h.2.1⟩, h.2.2.1, by have := h.2.2.2; rwa [List.length_map] at this⟩
theorem RdL.t {w : World} {s : Value} {L : List NdK} (h : RdL w s L) : RdT w s (L.map (·.1)) := ⟨h.1.1, h.1.2, h.2.1, by rw [List.length_map]; exact h.2.2⟩
theorem valid_call {w : World} {s : Value} {l : List Nd} (h : RdT w s l) : Calls Try.prog 27 #[.agg #[s]] w fun e w' => e = .returned (.bool (vld l)) ∧ w.grownBy w' none := by
  obtain ⟨L, rfl, hL⟩ := h.k
  exact valid_walk L s w hL
theorem rvalid_call {w : World} {s : Value} {l : List Nd} (h : RdT w s l) : Calls Try.prog 33 #[.agg #[s]] w fun e w' => e = .returned (.bool (vld l)) ∧ w.grownBy w' none := by
  obtain ⟨L, rfl, hL⟩ := h.k
  exact rvalid_walk L s w hL
theorem leaf_call {w : World} {s : Value} {l : List Nd} {a : Int} {r : List Nat × Int} (hr : leafOf l a = r) (h : RdT w s l) : Calls Try.prog 20 #[.agg #[s], .int .i64 a] w fun e w' => e = .returned (.tuple #[dval r.1, .int .i64 r.2]) ∧ w.grownBy w' none := by
  subst hr
  obtain ⟨L, rfl, hL⟩ := h.k
  exact leaf_walk L s a w hL
theorem rleaf_call {w : World} {s : Value} {l : List Nd} {a : Int} {r : List Nat × Int} (hr : leafOf l a = r) (h : RdT w s l) : Calls Try.prog 22 #[.agg #[s], .int .i64 a] w fun e w' => e = .returned (.tuple #[dval r.1, .int .i64 r.2]) ∧ w.grownBy w' none := by
  subst hr
  obtain ⟨L, rfl, hL⟩ := h.k
  exact rleaf_walk L s a w hL
theorem leafOf_dg {l : List Nd} (h : ∀ n ∈ l, Nok n) (a : Int) : Dg (leafOf l a).1 := by
  have hz : Dg zero32 := ⟨rfl, by intro x hx; simp [zero32, zs] at hx; omega⟩
  unfold leafOf
  split
  · split
    · rename_i n hn; exact desc_dg _ _ _ (h n (List.mem_of_find?_eq_some hn)).1
    · exact hz
  · exact hz
theorem punOf_ok {l : List Nd} (h : ∀ n ∈ l, Nok n) (a : Int) : ∀ n ∈ (punOf l a).1, Nok n := by
  have h0 : ∀ n ∈ punP a l, Nok n := by
    intro n hn
    unfold punP at hn
    obtain ⟨x, hx, hn⟩ := List.mem_flatMap.1 hn
    split at hn
    · rename_i hA
      have ho := hasA_ok hA
      have hd := okN_iff.1 ho
      have := oth_ok (34 - x.d).toNat x (by omega) ho n hn
      exact Nok_of this.1 this.2
    · obtain rfl := List.mem_singleton.1 hn; exact h n hx
  intro n hn
  unfold punOf at hn
  split at hn
  · split at hn
    · cases hn
    · exact h0 n hn
  · cases hn
theorem punOf_len {l : List Nd} (a : Int) : (punOf l a).1.length ≤ 32768 := by
  unfold punOf
  split
  · split
    · simp
    · rename_i h; simp only; omega
  · simp
/-- what Puncture hands to a law -/
def PunC (w : World) (r : List Nd × Int) (e : Ending) (w' : World) : Prop := ∃ ao cap, e = .returned (.tuple #[.agg #[.slice ao r.1.length cap], .int .i64 r.2]) ∧ RdT w' (.slice ao r.1.length cap) r.1 ∧ w.grownBy w' none
theorem PunS.c {w w' : World} {l : List Nd} {a : Int} {e : Ending} (hl : ∀ n ∈ l, Nok n) (hlen : l.length ≤ 1099511627776) {s : Value} (h : PunS w s (punOf l a) e w') : PunC w (punOf l a) e w' := by
  obtain ⟨v, h1, h2, h3, h4, _⟩ := h
  obtain ⟨ao, cap, rfl, _⟩ := h2.shape
  exact ⟨ao, cap, h1, ⟨h2, punOf_ok hl a, h3, by have := punOf_len (l := l) a; omega⟩, h4⟩
theorem punct_call {w : World} {s : Value} {l : List Nd} {a : Int} {r : List Nd × Int} (hr : punOf l a = r) (h : RdT w s l) : Calls Try.prog 24 #[.agg #[s], .int .i64 a] w (PunC w r) := by
  subst hr
  have h2 := h
  obtain ⟨L, rfl, hL⟩ := h.k
  exact (punct_walk L s a w hL).mono fun e w' hp => PunS.c (s := s) h2.2.1 h2.2.2.2 (PunR.s hp)
theorem rpunct_call {w : World} {s : Value} {l : List Nd} {a : Int} {r : List Nd × Int} (hr : punOf l a = r) (h : RdT w s l) : Calls Try.prog 25 #[.agg #[s], .int .i64 a] w (PunC w r) := by
  subst hr
  have h2 := h
  obtain ⟨L, rfl, hL⟩ := h.k
  exact (rpunct_walk L s a w hL).mono fun e w' hp => PunS.c h2.2.1 h2.2.2.2 hp
theorem NewC {w w' : World} {k : List Nat} (hk : Dg k) {s : Value} (ho : Own w' 91 34 s 1 (ncells ⟨0, 0, k⟩)) (hf : Fresh w w' s) : ∃ ao cap, s = .slice ao 1 cap ∧ RdT w' (.slice ao 1 cap) (tree k []) ∧ w.grownBy w' none := by
  obtain ⟨ao, cap, rfl, _⟩ := (Sl.of_own ho).shape
  refine ⟨ao, cap, rfl, ⟨?_, tree_ok hk, Own.lt ho, by rw [tree_nil]; simp⟩, hf.none⟩
  rw [tree_nil]
  exact by have := Sl.of_own ho; unfold tcells; simpa [root] using this
theorem new_call {w : World} {k : List Nat} (hk : Dg k) : Calls Try.prog 21 #[dval k] w fun e w' => ∃ ao cap, e = .returned (.agg #[.slice ao 1 cap]) ∧ RdT w' (.slice ao 1 cap) (tree k []) ∧ w.grownBy w' none :=
  (new_walk k hk w).mono fun e w' ⟨s, he, ho, hf⟩ => by
    obtain ⟨ao, cap, rfl, h1, h2⟩ := NewC hk ho hf
    exact ⟨ao, cap, he, h1, h2⟩
theorem rnew_call {w : World} {k : List Nat} (hk : Dg k) : Calls Try.prog 23 #[dval k] w fun e w' => ∃ ao cap, e = .returned (.agg #[.slice ao 1 cap]) ∧ RdT w' (.slice ao 1 cap) (tree k []) ∧ w.grownBy w' none :=
  (rnew_walk k hk w).mono fun e w' ⟨s, he, ho, hf⟩ => by
    obtain ⟨ao, cap, rfl, h1, h2⟩ := NewC hk ho hf
    exact ⟨ao, cap, he, h1, h2⟩
theorem gaps_call {w : World} {s : Value} {l : List Nd} {g : List (Int × Int)} (hg : gaps l = g) (h : RdT w s l) : Calls Try.prog 32 #[.agg #[s]] w fun e w' => ∃ ao cap, e = .returned (.slice ao g.length cap) ∧ Own w' 52 2 (.slice ao g.length cap) g.length (gcells g) ∧ w.grownBy w' none := by
  subst hg
  obtain ⟨L, rfl, hL⟩ := h.k
  refine (gaps_walk L s w hL).mono fun e w' ⟨v, he, ho, hf⟩ => ?_
  obtain ⟨ao, cap, rfl, _⟩ := (Sl.of_own ho).shape
  exact ⟨ao, cap, he, ho, hf.none⟩
end Go.Proofs.Yteakoleceoclkaa
