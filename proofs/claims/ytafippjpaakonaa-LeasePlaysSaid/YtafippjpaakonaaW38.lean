/- Leases: words for LeasePlays: what its drawn regions leave. -/
import Derived.Test.YtafippjpaakonaaW35
import Derived.Deep.RegionHeld3
namespace Go.Proofs.Ytafippjpaakonaa
open Go.RowKit
set_option linter.unusedSimpArgs false
set_option linter.unusedVariables false

/-- temporaries written one behind the other -/
def puts (a : Act) : List Tmp → List Value → Act
  | t :: ts, v :: vs => puts (a.put (some t) v) ts vs
  | _, _ => a
/-- a piece of code is cut off: which temporaries it has written, and what is known behind it -/
theorem wp_puts {P : Program} {c : Code} {Q : Exit → Act → World → Prop} {a : Act} {w : World} (L : List Tmp) (F : List Value → World → Prop)
    (h : c.wp P (fun e a' w' => e = .normal ∧ ∃ vs, F vs w' ∧ a' = puts a L vs) a w) (hq : ∀ vs w', F vs w' → Q .normal (puts a L vs) w') : c.wp P Q a w :=
  Code.wp_mono (fun e a' w' ⟨he, vs, hf, ha⟩ => by subst he; subst ha; exact hq vs w' hf) h
/-- step, with the growth from the call's own world besides -/
theorem step_callz {t r : Tb} {a : Ac} {s1 s2 : Value} {w0 w : World} (he : stp t a = r) (hR : Rd w0 s1 t.ls) (hS : Rd w0 s2 t.ls) (hg : w0.grownBy w none) (hn : t.ls.length ≤ 1000000) :
    Calls Try.prog 21 #[.agg #[.int .i64 t.next, s1], .agg #[.int .i64 t.next, s2], .agg #[.int .i64 a.kind, .int .i64 a.name, .int .i64 a.holder, .int .i64 a.token, .int .i64 a.now, .int .i64 a.dur]] w fun e w' =>
      ∃ ao k cap ao2 k2 cap2, e = .returned (.tuple #[.agg #[.int .i64 r.next, .slice ao k cap], .agg #[.int .i64 r.next, .slice ao2 k2 cap2], .bool true]) ∧ Hid (Rd w' (.slice ao k cap) r.ls ∧ Rd w' (.slice ao2 k2 cap2) r.ls ∧ w0.grownBy w' none ∧ w.grownBy w' none) := by
  refine (step_call he (Sl.kn hR hg) (Sl.kn hS hg) (World.grownBy.refl w none) hn).mono ?_
  rintro e w' ⟨ao, k, cap, ao2, k2, cap2, rfl, M⟩
  exact ⟨ao, k, cap, ao2, k2, cap2, rfl, hid ⟨M.out.1, M.out.2.1, grown_trans hg M.out.2.2, M.out.2.2⟩⟩
theorem fndPz {t : Tb} {r : Ls × Bool} {n now : Int} {s : Value} {w0 w : World} (he : fnd t n now = r) (hR : Rd w0 s t.ls) (hg : w0.grownBy w none) (hn : t.ls.length ≤ 1000000) :
    Calls Try.prog 15 #[.agg #[.int .i64 t.next, s], .int .i64 n, .int .i64 now] w fun e w' => e = .returned (.tuple #[.agg #[.int .i64 r.1.name, .int .i64 r.1.holder, .int .i64 r.1.token, .int .i64 r.1.till], .bool r.2]) ∧ Hid (w0.grownBy w' none ∧ w.grownBy w' none) :=
  (fndP_call he (Sl.kn hR hg) (World.grownBy.refl w none) hn).mono fun _ _ h => ⟨h.1, hid ⟨grown_trans hg h.2, h.2⟩⟩
theorem fndRz {t : Tb} {r : Ls × Bool} {n now : Int} {s : Value} {w0 w : World} (he : fnd t n now = r) (hR : Rd w0 s t.ls) (hg : w0.grownBy w none) (hn : t.ls.length ≤ 1000000) :
    Calls Try.prog 22 #[.agg #[.int .i64 t.next, s], .int .i64 n, .int .i64 now] w fun e w' => e = .returned (.tuple #[.agg #[.int .i64 r.1.name, .int .i64 r.1.holder, .int .i64 r.1.token, .int .i64 r.1.till], .bool r.2]) ∧ Hid (w0.grownBy w' none ∧ w.grownBy w' none) :=
  (fndR_call he (Sl.kn hR hg) (World.grownBy.refl w none) hn).mono fun _ _ h => ⟨h.1, hid ⟨grown_trans hg h.2, h.2⟩⟩
/-- two tables laid in new blocks -/
structure P7 (w w' : World) (B6 B7 : Nat) (r : Tb) (s6 s7 : Value) : Prop where
  g : w.grownBy w' none
  b6 : w'.heap[B6]? = some (.cells #[.int .i64 r.next, s6] 24 (0, 0))
  b7 : w'.heap[B7]? = some (.cells #[.int .i64 r.next, s7] 24 (0, 0))
  r6 : Rd w' s6 r.ls
  r7 : Rd w' s7 r.ls
  n6 : w.heap.size ≤ B6
  n7 : w.heap.size ≤ B7
section
variable {w w5 : World} {r : Tb} {s6 s7 : Value}
theorem P7.a (g : w.grownBy w5 none) (h6 : Rd w5 s6 r.ls) (h7 : Rd w5 s7 r.ls) : P7 w ((w5.alloc (.cells #[.int .i64 r.next, s6] 24)).alloc (.cells #[.int .i64 r.next, s7] 24)) w5.heap.size (w5.heap.size + 1) r s6 s7 :=
  have k := grown_trans (World.grownBy_alloc w5 (.cells #[.int .i64 r.next, s6] 24) none) (World.grownBy_alloc _ (.cells #[.int .i64 r.next, s7] 24) none)
  ⟨grown_trans g k, by rw [heap_past (by simp), heap_at rfl], by rw [heap_at (by simp)], Sl.kn h6 k, Sl.kn h7 k, g.size, Nat.le_succ_of_le g.size⟩
theorem P7.a2 (g : w.grownBy w5 none) (h6 : Rd w5 s6 r.ls) (h7 : Rd w5 s7 r.ls) : P7 w ((w5.alloc (.cells #[.int .i64 r.next, s7] 24)).alloc (.cells #[.int .i64 r.next, s6] 24)) (w5.heap.size + 1) w5.heap.size r s6 s7 :=
  have h := P7.a (s6 := s7) (s7 := s6) g h7 h6
  ⟨h.g, h.b7, h.b6, h.r7, h.r6, h.n7, h.n6⟩
theorem P7.set (A : Nat) {s : Value} (g : w.grownBy w5 none) (hA : w.heap.size ≤ A) (b : w5.heap[A]? = some (.cells #[.int .i64 0, .slice none 0 0] 24 (0, 0))) (next : Int) :
    w.grownBy ((w5.setCell ⟨A, 0, none⟩ (.int .i64 next)).setCell ⟨A, 1, none⟩ s) none ∧ w5.grownBy ((w5.setCell ⟨A, 0, none⟩ (.int .i64 next)).setCell ⟨A, 1, none⟩ s) (some A) ∧ ((w5.setCell ⟨A, 0, none⟩ (.int .i64 next)).setCell ⟨A, 1, none⟩ s).heap[A]? = some (.cells #[.int .i64 next, s] 24 (0, 0)) := by
  have g1 := grown_setCell w5 ⟨A, 0, none⟩ (.int .i64 next)
  have x1 := heap_setCell_same w5 A 0 _ 24 (.int .i64 next) b
  have g2 := grown_setCell (w5.setCell ⟨A, 0, none⟩ (.int .i64 next)) ⟨A, 1, none⟩ s
  have x2 := heap_setCell_same _ A 1 _ 24 s x1
  have k := grown_trans g1 g2
  exact ⟨grown_newR g k hA, k, by simpa using x2⟩
theorem P7.b {A : Nat} (g : w.grownBy w5 none) (hA : w.heap.size ≤ A) (b : w5.heap[A]? = some (.cells #[.int .i64 0, .slice none 0 0] 24 (0, 0))) (h6 : Rd w5 s6 r.ls) (h7 : Rd w5 s7 r.ls) :
    P7 w (((w5.setCell ⟨A, 0, none⟩ (.int .i64 r.next)).setCell ⟨A, 1, none⟩ s6).alloc (.cells #[.int .i64 r.next, s7] 24)) A w5.heap.size r s6 s7 := by
  obtain ⟨k1, k2, k3⟩ := P7.set (s := s6) A g hA b r.next
  have k4 := World.grownBy_alloc ((w5.setCell ⟨A, 0, none⟩ (.int .i64 r.next)).setCell ⟨A, 1, none⟩ s6) (.cells #[.int .i64 r.next, s7] 24) none
  exact ⟨grown_trans k1 k4, row_of k4 k3 (by simp), heap_at (by simp), Sl.kn (rd_kept (A := [.int .i64 0, .slice none 0 0]) h6 b (by simp) k2) k4, Sl.kn (rd_kept (A := [.int .i64 0, .slice none 0 0]) h7 b (by simp) k2) k4, hA, g.size⟩
theorem P7.b2 {A : Nat} (g : w.grownBy w5 none) (hA : w.heap.size ≤ A) (b : w5.heap[A]? = some (.cells #[.int .i64 0, .slice none 0 0] 24 (0, 0))) (h6 : Rd w5 s6 r.ls) (h7 : Rd w5 s7 r.ls) :
    P7 w (((w5.setCell ⟨A, 0, none⟩ (.int .i64 r.next)).setCell ⟨A, 1, none⟩ s7).alloc (.cells #[.int .i64 r.next, s6] 24)) w5.heap.size A r s6 s7 :=
  have h := P7.b (s6 := s7) (s7 := s6) g hA b h7 h6
  ⟨h.g, h.b7, h.b6, h.r7, h.r6, h.n7, h.n6⟩
theorem P7.c {A C : Nat} (g : w.grownBy w5 none) (hA : w.heap.size ≤ A) (hC : w.heap.size ≤ C) (hAC : A ≠ C) (b : w5.heap[A]? = some (.cells #[.int .i64 0, .slice none 0 0] 24 (0, 0))) (c : w5.heap[C]? = some (.cells #[.int .i64 0, .slice none 0 0] 24 (0, 0))) (h6 : Rd w5 s6 r.ls) (h7 : Rd w5 s7 r.ls) :
    P7 w ((((w5.setCell ⟨A, 0, none⟩ (.int .i64 r.next)).setCell ⟨A, 1, none⟩ s6).setCell ⟨C, 0, none⟩ (.int .i64 r.next)).setCell ⟨C, 1, none⟩ s7) A C r s6 s7 := by
  obtain ⟨k1, k2, k3⟩ := P7.set (s := s6) A g hA b r.next
  have c1 := row_of k2 c (by simpa using fun e => hAC e.symm)
  obtain ⟨m1, m2, m3⟩ := P7.set (s := s7) C k1 hC c1 r.next
  exact ⟨m1, row_of m2 k3 (by simpa using fun e => hAC e), m3, rd_kept (A := [.int .i64 0, .slice none 0 0]) (rd_kept (A := [.int .i64 0, .slice none 0 0]) h6 b (by simp) k2) c1 (by simp) m2, rd_kept (A := [.int .i64 0, .slice none 0 0]) (rd_kept (A := [.int .i64 0, .slice none 0 0]) h7 b (by simp) k2) c1 (by simp) m2, hA, hC⟩
end
/-- a lease laid in a new block -/
structure P8 (w w' : World) (B : Nat) (x : Ls) : Prop where
  g : w.grownBy w' none
  b : w'.heap[B]? = some (.cells #[.int .i64 x.name, .int .i64 x.holder, .int .i64 x.token, .int .i64 x.till] 38 (0, 0))
theorem P8.a {w w5 : World} {x : Ls} (g : w.grownBy w5 none) : P8 w (w5.alloc (.cells #[.int .i64 x.name, .int .i64 x.holder, .int .i64 x.token, .int .i64 x.till] 38)) w5.heap.size x :=
  ⟨grown_trans g (World.grownBy_alloc _ _ _), heap_at rfl⟩
theorem P8.b' {w w5 : World} {x : Ls} {A : Nat} (g : w.grownBy w5 none) (hA : w.heap.size ≤ A) (b : w5.heap[A]? = some (.cells #[.int .i64 0, .int .i64 0, .int .i64 0, .int .i64 0] 38 (0, 0))) :
    P8 w ((((w5.setCell ⟨A, 0, none⟩ (.int .i64 x.name)).setCell ⟨A, 1, none⟩ (.int .i64 x.holder)).setCell ⟨A, 2, none⟩ (.int .i64 x.token)).setCell ⟨A, 3, none⟩ (.int .i64 x.till)) A x := by
  have g1 := grown_setCell w5 ⟨A, 0, none⟩ (.int .i64 x.name)
  have x1 := heap_setCell_same w5 A 0 _ 38 (.int .i64 x.name) b
  have g2 := grown_setCell (w5.setCell ⟨A, 0, none⟩ (.int .i64 x.name)) ⟨A, 1, none⟩ (.int .i64 x.holder)
  have x2 := heap_setCell_same _ A 1 _ 38 (.int .i64 x.holder) x1
  have g3 := grown_setCell ((w5.setCell ⟨A, 0, none⟩ (.int .i64 x.name)).setCell ⟨A, 1, none⟩ (.int .i64 x.holder)) ⟨A, 2, none⟩ (.int .i64 x.token)
  have x3 := heap_setCell_same _ A 2 _ 38 (.int .i64 x.token) x2
  have g4 := grown_setCell (((w5.setCell ⟨A, 0, none⟩ (.int .i64 x.name)).setCell ⟨A, 1, none⟩ (.int .i64 x.holder)).setCell ⟨A, 2, none⟩ (.int .i64 x.token)) ⟨A, 3, none⟩ (.int .i64 x.till)
  have x4 := heap_setCell_same _ A 3 _ 38 (.int .i64 x.till) x3
  exact ⟨grown_newR g (grown_trans g1 (grown_trans g2 (grown_trans g3 g4))) hA, by simpa using x4⟩
/-- what the loop of LeasePlays holds -/
structure PY (w wr : World) (B3 B4 : Nat) (t : Tb) (s3 s4 : Value) : Prop where
  g : w.grownBy wr none
  b3 : wr.heap[B3]? = some (.cells #[.int .i64 t.next, s3] 24 (0, 0))
  b4 : wr.heap[B4]? = some (.cells #[.int .i64 t.next, s4] 24 (0, 0))
  r3 : Rd wr s3 t.ls
  r4 : Rd wr s4 t.ls
theorem PY.call {w wr w' : World} {B3 B4 : Nat} {t : Tb} {s3 s4 : Value} (h : PY w wr B3 B4 t s3 s4) (g : wr.grownBy w' none) : PY w w' B3 B4 t s3 s4 :=
  ⟨grown_trans h.g g, row_of g h.b3 (by simp), row_of g h.b4 (by simp), Sl.kn h.r3 g, Sl.kn h.r4 g⟩
theorem PY.take {w wr : World} {B3 B4 : Nat} {t r : Tb} {s3 s4 : Value} {ao ao2 : Option Addr} {n cap n2 cap2 : Nat} (h : PY w wr B3 B4 t s3 s4) (h6 : Rd wr (.slice ao n cap) r.ls) (h7 : Rd wr (.slice ao2 n2 cap2) r.ls) (hA : w.heap.size ≤ B3) (hC : w.heap.size ≤ B4) (hne : B3 ≠ B4) :
    PY w ((((wr.setCell ⟨B3, 0, none⟩ (.int .i64 r.next)).setCell ⟨B3, 1, none⟩ (.slice ao n cap)).setCell ⟨B4, 0, none⟩ (.int .i64 r.next)).setCell ⟨B4, 1, none⟩ (.slice ao2 n2 cap2)) B3 B4 r (.slice ao n cap) (.slice ao2 n2 cap2) := by
  have hT : TF w wr B3 t s3 := ⟨h.g, h.b3, h.r3⟩
  have k1 := grown_trans (grown_setCell wr ⟨B3, 0, none⟩ (.int .i64 r.next)) (grown_setCell (wr.setCell ⟨B3, 0, none⟩ (.int .i64 r.next)) ⟨B3, 1, none⟩ (.slice ao n cap))
  have hU := hT.take h6 hA
  have c4 := row_of k1 h.b4 (by simpa using fun e => hne e.symm)
  have r7 := rd_kept (A := [.int .i64 t.next, s3]) h7 h.b3 (by simp) k1
  generalize (wr.setCell ⟨B3, 0, none⟩ (.int .i64 r.next)).setCell ⟨B3, 1, none⟩ (.slice ao n cap) = v at *
  have g1 := grown_setCell v ⟨B4, 0, none⟩ (.int .i64 r.next)
  have x1 := heap_setCell_same v B4 0 _ 24 (.int .i64 r.next) c4
  have g2 := grown_setCell (v.setCell ⟨B4, 0, none⟩ (.int .i64 r.next)) ⟨B4, 1, none⟩ (.slice ao2 n2 cap2)
  have x2 := heap_setCell_same _ B4 1 _ 24 (.slice ao2 n2 cap2) x1
  have k2 := grown_trans g1 g2
  exact ⟨grown_newR hU.g k2 hC, row_of k2 hU.bt (by simpa using fun e => hne e), by simpa using x2, rd_kept (A := [.int .i64 t.next, s4]) hU.rd c4 (by simp) k2, rd_kept (A := [.int .i64 t.next, s4]) r7 c4 (by simp) k2⟩
end Go.Proofs.Ytafippjpaakonaa
