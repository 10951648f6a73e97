/- Small laws for the walks of the laws. -/
import Derived.Test.YtkeiffccllfkpaaM9
import Derived.Test.YtkeiffccllfkpaaM8
import Derived.Test.YtkeiffccllfkpaaM7
namespace Go.Proofs.Ytkeiffccllfkpaa
open Go.RowKit

theorem range_grown {w w' : World} {b : Nat} {C : List Value} {t : TypeId} {fr : Nat × Nat} (h : w.heap[b]? = some (.cells C.toArray t fr)) (g : w.grownBy w' none) : w'.rangeAt b 0 C := rangeAt_row (row_of g h (by simp))
theorem flat_byte {α : Type} {f : α → List Nat} {l : List α} (h : ∀ x ∈ l, ∀ b ∈ f x, b < 256) : ∀ b ∈ l.flatMap f, b < 256 := fun b hb => by
  obtain ⟨x, hx, hb⟩ := List.mem_flatMap.1 hb
  exact h x hx b hb
theorem app_byte {a b : List Nat} (h1 : ∀ x ∈ a, x < 256) (h2 : ∀ x ∈ b, x < 256) : ∀ x ∈ a ++ b, x < 256 := fun x hx => by
  rcases List.mem_append.1 hx with h | h
  · exact h1 x h
  · exact h2 x h
theorem encVers_byte (l : List Ver) : ∀ b ∈ encVers l, b < 256 := app_byte (fun b hb => enc_byte _ b hb) (flat_byte fun _ _ => app_byte (fun b hb => enc_byte _ b hb) (app_byte (fun b hb => enc_byte _ b hb) (fun b hb => enc_byte _ b hb)))
theorem encSrcs_byte (l : List Src) : ∀ b ∈ encSrcs l, b < 256 := app_byte (fun b hb => enc_byte _ b hb) (flat_byte fun _ _ => app_byte (fun b hb => enc_byte _ b hb) (fun b hb => enc_byte _ b hb))
theorem Sl.lo_pos {w : World} {v : Value} {n : Nat} {xs : List Value} (h : Sl w 1 v n xs) (hn : 0 < n) : Lo v w.heap.size := fun k hk => by
  obtain ⟨ao, cap, rfl, _⟩ := h.shape
  have hx : xs.length = n := by simpa using h.1
  obtain ⟨b, off, rfl, hc⟩ := h.at 0 (by omega)
  have := hc 0 (by omega)
  simp [Value.ownBlock] at hk
  subst hk
  exact World.block_lt_of_cell? w _ this
/-- a store of a whole value, the world behind it a letter -/
theorem wpList_storeTYg {P : Program} {ops : Array Oper} {rest : List Oper} {o : Oper} {a : Act} {w : World} {Q : Exit → Act → World → Prop} (hgd : o.guard = none) (T : TypeId) (x y : Operand) (ho : o.op = .store T x y)
    {b : Nat} {cs : List Value} {c0 : Array Value} {v : Value} {t : TypeId} (hx : a.eval x = .pointer (some ⟨b, 0, none⟩)) (hy : a.eval y = v) (ty : TY P T cs v) (hb : w.heap[b]? = some (.cells c0 t (0, 0))) (hc : c0.size = cs.length)
    (h : ∀ w', w.grownBy w' (some b) → w'.heap[b]? = some (.cells cs.toArray t (0, 0)) → wpList P ops Q rest (a.put o.dst undef) w') : wpList P ops Q (o :: rest) a w :=
  wpList_storeTY hgd T x y ho hx hy ty hb hc (h _ (ty.stores hb hc).2.1 (ty.stores hb hc).2.2)
theorem Own.kn {w w' : World} {e : TypeId} {sz : Nat} {v : Value} {n : Nat} {xs : List Value} (h : Own w e sz v n xs) (hg : w.grownBy w' Option.none) : Own w' e sz v n xs := h.kept hg (by cases v.ownBlock <;> simp)
end Go.Proofs.Ytkeiffccllfkpaa
