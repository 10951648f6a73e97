/- Leases: a table in a block that a loop writes. -/
import Derived.Test.YtafippjpaakonaaW30
import Derived.Test.YtafippjpaakonaaPl3
namespace Go.Proofs.Ytafippjpaakonaa
open Go.RowKit
set_option linter.unusedSimpArgs false
set_option linter.unusedVariables false

/-- the block B holds the table t -/
structure TF (w wr : World) (B : Nat) (t : Tb) (s : Value) : Prop where
  g : w.grownBy wr none
  bt : wr.heap[B]? = some (.cells #[.int .i64 t.next, s] 24 (0, 0))
  rd : Rd wr s t.ls
theorem TF.call {w wr w' : World} {B : Nat} {t : Tb} {s : Value} (h : TF w wr B t s) (g : wr.grownBy w' none) : TF w w' B t s :=
  ⟨grown_trans h.g g, row_of g h.bt (by simp), Sl.kn h.rd g⟩
theorem TF.take {w wr : World} {B : Nat} {t r : Tb} {s : Value} {ao : Option Addr} {n cap : Nat} (h : TF w wr B t s) (hr : Rd wr (.slice ao n cap) r.ls) (hB : w.heap.size ≤ B) : TF w ((wr.setCell ⟨B, 0, none⟩ (.int .i64 r.next)).setCell ⟨B, 1, none⟩ (.slice ao n cap)) B r (.slice ao n cap) := by
  have g1 := grown_setCell wr ⟨B, 0, none⟩ (.int .i64 r.next)
  have x1 := heap_setCell_same wr B 0 _ 24 (.int .i64 r.next) h.bt
  have g2 := grown_setCell (wr.setCell ⟨B, 0, none⟩ (.int .i64 r.next)) ⟨B, 1, none⟩ (.slice ao n cap)
  have x2 := heap_setCell_same _ B 1 _ 24 (.slice ao n cap) x1
  have k := grown_trans g1 g2
  exact ⟨grown_newR h.g k hB, by simpa using x2, rd_kept (A := [.int .i64 t.next, s]) hr h.bt (by simp) k⟩
/-- the new table was laid in a block of its own first -/
theorem TF.takeA {w wr : World} {B : Nat} {t r : Tb} {s : Value} {ao : Option Addr} {n cap : Nat} {o : Obj} (h : TF w wr B t s) (hr : Rd wr (.slice ao n cap) r.ls) (hB : w.heap.size ≤ B) : TF w (((wr.setCell ⟨B, 0, none⟩ (.int .i64 r.next)).setCell ⟨B, 1, none⟩ (.slice ao n cap)).alloc o) B r (.slice ao n cap) :=
  (h.take hr hB).call (World.grownBy_alloc _ o none)
theorem TF.keepA {w wr : World} {B : Nat} {t : Tb} {s : Value} {o : Obj} (h : TF w wr B t s) : TF w (wr.alloc o) B t s := h.call (World.grownBy_alloc wr o none)
theorem Sl.len_eq {w : World} {sz k cap n : Nat} {ao : Option Addr} {xs : List Value} (h : Sl w sz (.slice ao k cap) n xs) : k = n := by
  obtain ⟨_, _, e, _, _⟩ := Sl.shape h
  simp only [Value.slice.injEq] at e
  exact e.2.1
theorem u64_mod {o d : Int} (h1 : 1 ≤ d) (h2 : d ≤ 1099511627776) : ∃ r, 0 ≤ r ∧ r < d ∧ wrap64 ((IntKind.u64.wrap o).tmod d) = r := by
  have h0 : 0 ≤ IntKind.u64.wrap o := by
    have e : IntKind.u64.wrap o = o % 18446744073709551616 := by simp [IntKind.wrap, IntKind.bits, IntKind.signed]
    rw [e]; exact Int.emod_nonneg _ (by decide)
  rw [Int.tmod_eq_emod_of_nonneg h0]
  have h3 := Int.emod_nonneg (IntKind.u64.wrap o) (show d ≠ 0 by omega)
  have h4 := Int.emod_lt_of_pos (IntKind.u64.wrap o) (show 0 < d by omega)
  exact ⟨_, h3, h4, (by unfold wrap64; omega)⟩
theorem later_of {o d now : Int} (h1 : 1 ≤ d) (h2 : d ≤ 1099511627776) (h3 : -1099511627776 ≤ now) (h4 : now ≤ 1099511627776) : ∃ la, now ≤ la ∧ la < now + d ∧ wrap64 (now + wrap64 ((IntKind.u64.wrap o).tmod d)) = la := by
  obtain ⟨r, r1, r2, e⟩ := u64_mod (o := o) h1 h2
  rw [e]
  exact ⟨now + r, by omega, by omega, (by unfold wrap64; omega)⟩
theorem new_call {w0 w : World} (hg : w0.grownBy w none) : Calls Try.prog 10 #[] w fun e w' => e = .returned (.agg #[.int .i64 1, .slice none 0 0]) ∧ Hid (w0.grownBy w' none) :=
  (new_walk w).mono fun _ _ h => ⟨h.1, grown_trans hg h.2⟩
theorem rnew_call {w0 w : World} (hg : w0.grownBy w none) : Calls Try.prog 19 #[] w fun e w' => e = .returned (.agg #[.int .i64 1, .slice none 0 0]) ∧ Hid (w0.grownBy w' none) :=
  (rnew_walk w).mono fun _ _ h => ⟨h.1, grown_trans hg h.2⟩
end Go.Proofs.Ytafippjpaakonaa
