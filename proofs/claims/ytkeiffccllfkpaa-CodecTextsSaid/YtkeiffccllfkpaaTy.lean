/- Values of a type that lie whole in a block: one law for loading and storing, whatever the type. -/
import Derived.Test.YtkeiffccllfkpaaRd1
import Derived.Deep.MidRow
namespace Go.Proofs.Ytkeiffccllfkpaa
open Go.RowKit

def ptr (b : Nat) : Value := .pointer (some ⟨b, 0, none⟩)
theorem row_of {w w' : World} {g : Nat} {o : Obj} {row : Option Nat} (hg : w.grownBy w' row) (h : w.heap[g]? = some o) (hne : some g ≠ row) : w'.heap[g]? = some o :=
  (hg.block g (Array.getElem?_eq_some_iff.1 h).1 hne).trans h

/-- v is a value of type T, its cells cs -/
structure TY (P : Program) (T : TypeId) (cs : List Value) (v : Value) : Prop where
  size : (P.info? T).map (·.size) = some cs.length
  cells : v.cells = cs.toArray
  one : ∀ c ∈ cs, c.oneCell' = true
  load : ∀ (w : World) (b o : Nat), w.rangeAt b o cs → (loadVar T ⟨b, o, none⟩).run P w = .ok v w

theorem TY.agg {P : Program} {T : TypeId} {cs : List Value} {d : TypeDesc} (hu : P.underlying T = some d) (hd : d.isRow = true) (hi : (P.info? T).map (·.size) = some cs.length) (h1 : ∀ c ∈ cs, c.oneCell' = true) : TY P T cs (.agg cs.toArray) :=
  ⟨hi, rfl, h1, fun w b o hr => run_loadVar_mid w b o T cs d hr hu hd hi⟩
theorem TY.one' {P : Program} {T : TypeId} {v : Value} {d : TypeDesc} (hu : P.underlying T = some d) (hd : d.isRow = false) (hi : (P.info? T).map (·.size) = some 1) (h1 : v.oneCell' = true) : TY P T [v] v := by
  refine ⟨hi, by cases v <;> first | rfl | (cases h1), by simpa using h1, fun w b o hr => ?_⟩
  have hc : w.cell? ⟨b, o, none⟩ = some v := hr 0 v rfl
  have hagg : (isAgg T).run P w = .ok false w := by
    unfold isAgg
    rw [Sem.run_bind, run_underlying hu w]
    cases d <;> simp_all
  simp [loadVar, Sem.run_bind, hagg, run_load, hc]
theorem rangeAt_row {w : World} {b : Nat} {cs : List Value} {t : TypeId} {fr : Nat × Nat} (h : w.heap[b]? = some (.cells cs.toArray t fr)) : w.rangeAt b 0 cs := fun j v hj => by
  rw [Nat.zero_add, cell_of_row w b j _ t fr h]
  simpa using hj
theorem TY.loads {P : Program} {T : TypeId} {cs : List Value} {v : Value} (h : TY P T cs v) {w : World} {b : Nat} {t : TypeId} {fr : Nat × Nat} (hb : w.heap[b]? = some (.cells cs.toArray t fr)) : (Instr.loadAt T (ptr b)).run P w = .ok v w := by
  simp only [Instr.loadAt, ptr, Instr.sureAddr, Sem.run_bind, Sem.run_pure, Result.andThen_ok, h.load w b 0 (rangeAt_row hb)]
theorem setCells_grown (b : Nat) : ∀ (vs : List Value) (o : Nat) (w : World), w.grownBy (w.setCells b o vs) (some b)
  | [], _, w => World.grownBy.refl _ _
  | v :: r, o, w => by
    rw [World.setCells]
    exact grown_trans (grown_setCell w ⟨b, o, none⟩ v) (setCells_grown b r (o + 1) _)
theorem setCells_row (b : Nat) (t : TypeId) : ∀ (vs : List Value) (o : Nat) (w : World) (pre post : List Value), o = pre.length → vs.length = post.length → w.heap[b]? = some (.cells (pre ++ post).toArray t (0, 0)) →
    (w.setCells b o vs).heap[b]? = some (.cells (pre ++ vs).toArray t (0, 0))
  | [], _, w, pre, post, _, hl, h => by
    obtain rfl : post = [] := List.eq_nil_of_length_eq_zero (by simpa using hl.symm)
    exact h
  | v :: r, o, w, pre, [], _, hl, _ => by simp at hl
  | v :: r, o, w, pre, x :: post, ho, hl, h => by
    rw [World.setCells]
    have := heap_setCell_same w b o _ t v h
    have e : ((pre ++ x :: post).toArray.setIfInBounds o v) = ((pre ++ [v]) ++ post).toArray := by
      subst ho
      simp
    rw [e] at this
    have := setCells_row b t r (o + 1) _ (pre ++ [v]) post (by simp [ho]) (by simpa using hl) this
    simpa using this
theorem TY.stores {P : Program} {T : TypeId} {cs : List Value} {v : Value} (h : TY P T cs v) {w : World} {b : Nat} {t : TypeId} {c0 : Array Value} (hb : w.heap[b]? = some (.cells c0 t (0, 0))) (hc : c0.size = cs.length) :
    (Instr.storeAt T (ptr b) v).run P w = .ok () (w.setCells b 0 cs) ∧ w.grownBy (w.setCells b 0 cs) (some b) ∧ (w.setCells b 0 cs).heap[b]? = some (.cells cs.toArray t (0, 0)) := by
  refine ⟨?_, setCells_grown b cs 0 w, ?_⟩
  · have := run_storeCells_cells (P := P) b 0 cs 0 w (fun j hj => by
      rw [cell_of_row w b _ _ t _ hb]
      have hj' : j < c0.size := by omega
      simp [hj']) (fun j hj => frozen_of_row w b _ _ t hb) h.one
    simp only [Instr.storeAt, ptr, Instr.sureAddr, Sem.run_bind, Sem.run_pure, Result.andThen_ok]
    have hs := h.size
    cases hq : P.info? T with
    | none => simp [hq] at hs
    | some i =>
      have hs' : i.size = cs.length := by simpa [hq] using hs
      simp only [Nat.add_zero] at this
      simp [storeVar, sizeOf, typeInfo, hq, h.cells, hs', this]
  · exact setCells_row b t cs 0 w [] c0.toList rfl (by simpa using hc.symm) (by simpa using hb)
end Go.Proofs.Ytkeiffccllfkpaa
