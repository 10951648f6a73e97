/- Leases: step of program and reference. (printed by gen_w28.py) -/
import Derived.Test.YtafippjpaakonaaW27
namespace Go.Proofs.Ytafippjpaakonaa
open Go.RowKit
set_option linter.unusedSimpArgs false
set_option linter.unusedVariables false

theorem and3 (k : Int) : 0 ≤ bits .and .i64 k 3 ∧ bits .and .i64 k 3 ≤ 3 := by
  have h : ((BitVec.ofInt 64 k) &&& (BitVec.ofInt 64 3)).toNat ≤ 3 := by
    rw [BitVec.toNat_and]
    exact Nat.and_le_right
  have e : bits .and .i64 k 3 = IntKind.i64.wrap ((((BitVec.ofInt 64 k) &&& (BitVec.ofInt 64 3)).toNat : Nat) : Int) := rfl
  rw [e, IntKind.wrap_i64]
  omega
/-- an act -/
structure Ac where
  kind : Int
  name : Int
  holder : Int
  token : Int
  now : Int
  dur : Int
def acells (a : Ac) : List Value := [.int .i64 a.kind, .int .i64 a.name, .int .i64 a.holder, .int .i64 a.token, .int .i64 a.now, .int .i64 a.dur]
def aval (a : Ac) : Value := .agg #[.int .i64 a.kind, .int .i64 a.name, .int .i64 a.holder, .int .i64 a.token, .int .i64 a.now, .int .i64 a.dur]
/-- which operation an act names -/
def Ac.op (a : Ac) : Int := bits .and .i64 a.kind 3
/-- what the operation gives: the table and the error -/
def Ac.res (a : Ac) (t : Tb) : Tb × Int :=
  if a.op = 0 then ((acq cds t a.name a.holder a.now a.dur).1, (acq cds t a.name a.holder a.now a.dur).2.2)
  else if a.op = 1 then ren cds t a.name a.holder a.token a.now a.dur
  else if a.op = 2 then rel cds t a.name a.holder a.token
  else if a.op = 3 then (expd t a.now, 0)
  else (.zero, 0)
/-- the table behind an act -/
def stp (t : Tb) (a : Ac) : Tb := if (a.res t).2 = 0 then (a.res t).1 else t
theorem ins_le1 {l : List Ls} (h : Asc l) (x : Ls) : (ins x l).length ≤ l.length + 1 := by
  have := h.len x.name
  unfold ins
  simp only [List.length_append, List.length_cons]
  omega
theorem del_le1 {l : List Ls} (h : Asc l) (n : Int) : (del n l).length ≤ l.length := by
  have := h.len n
  unfold del
  simp only [List.length_append]
  omega
theorem ok_len {t : Tb} (h : t.ok = true) : t.ls.length ≤ 64 ∧ Asc t.ls := ⟨((Tb.ok_iff _).1 h).1.2.2, ((Tb.ok_iff _).1 h).2.1⟩
theorem acq_len (t : Tb) (n h now d : Int) : (acq cds t n h now d).1.ls.length ≤ 65 := by
  unfold acq
  cases hok : t.ok with
  | false => simp [Tb.zero]
  | true =>
    obtain ⟨h1, h2⟩ := ok_len hok
    have := ins_le1 h2 ⟨n, h, t.next, now + d⟩
    cases timely now d with
    | false => simp [Tb.zero]
    | true =>
      simp only [Bool.not_true, Bool.or_self, Bool.false_eq_true, if_false]
      cases look n t.ls with
      | none => dsimp only; split <;> simp [Tb.zero]; omega
      | some x => dsimp only; split; simp [Tb.zero]; split <;> simp [Tb.zero]; omega
theorem ren_len (t : Tb) (n h k now d : Int) : (ren cds t n h k now d).1.ls.length ≤ 65 := by
  unfold ren
  cases hok : t.ok with
  | false => simp [Tb.zero]
  | true =>
    obtain ⟨h1, h2⟩ := ok_len hok
    cases timely now d with
    | false => simp [Tb.zero]
    | true =>
      simp only [Bool.not_true, Bool.or_self, Bool.false_eq_true, if_false]
      cases look n t.ls with
      | none => simp [Tb.zero]
      | some x =>
        have := ins_le1 h2 ⟨n, h, k, max x.till (now + d)⟩
        dsimp only; split <;> simp [Tb.zero]; omega
theorem rel_len (t : Tb) (n h k : Int) : (rel cds t n h k).1.ls.length ≤ 65 := by
  unfold rel
  cases hok : t.ok with
  | false => simp [Tb.zero]
  | true =>
    obtain ⟨h1, h2⟩ := ok_len hok
    have := del_le1 h2 n
    simp only [Bool.not_true, Bool.false_eq_true, if_false]
    cases look n t.ls with
    | none => simp [Tb.zero]
    | some x => dsimp only; split <;> simp [Tb.zero]; omega
theorem expd_len (t : Tb) (now : Int) : (expd t now).ls.length ≤ 65 := by
  unfold expd
  cases hok : t.ok with
  | false => simp [Tb.zero]
  | true =>
    obtain ⟨h1, h2⟩ := ok_len hok
    simp only [Bool.not_true, Bool.false_eq_true, if_false]
    exact Nat.le_trans (List.length_filter_le _ _) (by omega)
theorem resCC1 {P : Program} {fn : Func} {p q r : Tmp} {T S : TypeId} (h : fn.results = #[.cell p T, .cell q S, .tmp r]) {tmps : Array Value} {w : World} {b0 b1 : Nat} {c0 c1 : List Value} {v0 v1 v2 : Value} {fr0 fr1 : Nat × Nat} {u0 u1 : TypeId}
    (hp : tmps.getD p undef = ptr b0) (hq : tmps.getD q undef = ptr b1) (hr : tmps.getD r undef = v2) (t0 : TY P T c0 v0) (t1 : TY P S c1 v1) (h0 : w.heap[b0]? = some (.cells c0.toArray u0 fr0)) (h1 : w.heap[b1]? = some (.cells c1.toArray u1 fr1)) :
    (results fn tmps).run P w = .ok (.tuple #[v0, v1, v2]) w := by
  have e0 := t0.load w b0 0 (rangeAt_row h0)
  have e1 := t1.load w b1 0 (rangeAt_row h1)
  have hp' : tmps[p]?.getD undef = .pointer (some ⟨b0, 0, none⟩) := by simpa [ptr] using hp
  have hq' : tmps[q]?.getD undef = .pointer (some ⟨b1, 0, none⟩) := by simpa [ptr] using hq
  have hr' : tmps[r]?.getD undef = v2 := by simpa using hr
  simp [results, h, hp', hq', hr', asAddr, e0, e1]
/-- the blocks of step -/
structure SF (w wr : World) (next : Int) (s1 s2 : Value) (a : Ac) (X Y : List Value) : Prop where
  g : w.grownBy wr none
  b0 : wr.heap[w.heap.size]? = some (.cells #[.int .i64 next, s1] 24 (0, 0))
  b1 : wr.heap[w.heap.size + 1]? = some (.cells #[.int .i64 next, s2] 24 (0, 0))
  b2 : wr.heap[w.heap.size + 1 + 1]? = some (.cells (acells a).toArray 35 (0, 0))
  b3 : wr.heap[w.heap.size + 1 + 1 + 1]? = some (.cells #[.int .i64 0, .slice none 0 0] 24 (0, 0))
  b4 : wr.heap[w.heap.size + 1 + 1 + 1 + 1]? = some (.cells #[.int .i64 0, .slice none 0 0] 24 (0, 0))
  b5 : wr.heap[w.heap.size + 1 + 1 + 1 + 1 + 1]? = some (.cells X.toArray 24 (0, 0))
  b6 : wr.heap[w.heap.size + 1 + 1 + 1 + 1 + 1 + 1]? = some (.cells Y.toArray 24 (0, 0))
section
variable {w wr w' : World} {next : Int} {s1 s2 : Value} {a : Ac} {X Y : List Value}
theorem SF.start (w : World) (next : Int) (s1 s2 : Value) (a : Ac) : SF w (((((((w.alloc (.cells #[.int .i64 next, s1] 24)).alloc (.cells #[.int .i64 next, s2] 24)).alloc (.cells (acells a).toArray 35)).alloc (.cells #[.int .i64 0, .slice none 0 0] 24)).alloc (.cells #[.int .i64 0, .slice none 0 0] 24)).alloc (.cells [.int .i64 0, .slice none 0 0].toArray 24)).alloc (.cells [.int .i64 0, .slice none 0 0].toArray 24)) next s1 s2 a [.int .i64 0, .slice none 0 0] [.int .i64 0, .slice none 0 0] :=
  ⟨(by repeat (first | exact World.grownBy.refl _ _ | refine grown_trans ?_ (World.grownBy_alloc _ _ _))),
   by rw [heap_past (by simp <;> omega), heap_past (by simp <;> omega), heap_past (by simp <;> omega), heap_past (by simp <;> omega), heap_past (by simp <;> omega), heap_past (by simp <;> omega), heap_at (by simp <;> omega)],
   by rw [heap_past (by simp <;> omega), heap_past (by simp <;> omega), heap_past (by simp <;> omega), heap_past (by simp <;> omega), heap_past (by simp <;> omega), heap_at (by simp <;> omega)],
   by rw [heap_past (by simp <;> omega), heap_past (by simp <;> omega), heap_past (by simp <;> omega), heap_past (by simp <;> omega), heap_at (by simp <;> omega)],
   by rw [heap_past (by simp <;> omega), heap_past (by simp <;> omega), heap_past (by simp <;> omega), heap_at (by simp <;> omega)],
   by rw [heap_past (by simp <;> omega), heap_past (by simp <;> omega), heap_at (by simp <;> omega)],
   by rw [heap_past (by simp <;> omega), heap_at (by simp <;> omega)],
   by rw [heap_at (by simp <;> omega)]⟩
theorem SF.call (h : SF w wr next s1 s2 a X Y) (g : wr.grownBy w' none) : SF w w' next s1 s2 a X Y :=
  ⟨grown_trans h.g g, row_of g h.b0 (by simp), row_of g h.b1 (by simp), row_of g h.b2 (by simp), row_of g h.b3 (by simp), row_of g h.b4 (by simp), row_of g h.b5 (by simp), row_of g h.b6 (by simp)⟩
theorem SF.s5 {X' : List Value} (h : SF w wr next s1 s2 a X Y) (g : wr.grownBy w' (some (w.heap.size + 1 + 1 + 1 + 1 + 1))) (hb : w'.heap[w.heap.size + 1 + 1 + 1 + 1 + 1]? = some (.cells X'.toArray 24 (0, 0))) : SF w w' next s1 s2 a X' Y :=
  ⟨grown_newR h.g g (by omega), row_of g h.b0 (by simp <;> omega), row_of g h.b1 (by simp <;> omega), row_of g h.b2 (by simp <;> omega), row_of g h.b3 (by simp <;> omega), row_of g h.b4 (by simp <;> omega), hb, row_of g h.b6 (by simp <;> omega)⟩
theorem SF.s6 {Y' : List Value} (h : SF w wr next s1 s2 a X Y) (g : wr.grownBy w' (some (w.heap.size + 1 + 1 + 1 + 1 + 1 + 1))) (hb : w'.heap[w.heap.size + 1 + 1 + 1 + 1 + 1 + 1]? = some (.cells Y'.toArray 24 (0, 0))) : SF w w' next s1 s2 a X Y' :=
  ⟨grown_newR h.g g (by omega), row_of g h.b0 (by simp <;> omega), row_of g h.b1 (by simp <;> omega), row_of g h.b2 (by simp <;> omega), row_of g h.b3 (by simp <;> omega), row_of g h.b4 (by simp <;> omega), row_of g h.b5 (by simp <;> omega), hb⟩
end
theorem fin_step {w wr : World} {next : Int} {s1 s2 : Value} {a : Ac} {X Y : List Value} (nq : Nat) (h : SF w wr next s1 s2 a X Y) {fn : Func} {c : Act} {r : Tb} {ao ao2 : Option Addr} {n cap n2 cap2 : Nat} (h1 : Rd wr (.slice ao n cap) r.ls) (h2 : Rd wr (.slice ao2 n2 cap2) r.ls)
    (hf : fn.results = #[.cell 6 24, .cell 7 24, .tmp 8]) (ha : c.tmps.getD 6 undef = ptr (w.heap.size + 1 + 1 + 1)) (hb : c.tmps.getD 7 undef = ptr (w.heap.size + 1 + 1 + 1 + 1)) (hc : c.tmps.getD 8 undef = .bool true) (hd : c.defers = []) :
    bodyPost Try.prog fn (fun e w' => ∃ u1 u2, e = .returned (.tuple #[.agg #[.int .i64 r.next, u1], .agg #[.int .i64 r.next, u2], .bool true]) ∧ Rd w' u1 r.ls ∧ Rd w' u2 r.ls ∧ w.grownBy w' none) .ret c
      (((((wr.drewN nq).setCell ⟨w.heap.size + 1 + 1 + 1, 0, none⟩ (.int .i64 r.next)).setCell ⟨w.heap.size + 1 + 1 + 1, 1, none⟩ (.slice ao n cap)).setCell ⟨w.heap.size + 1 + 1 + 1 + 1, 0, none⟩ (.int .i64 r.next)).setCell ⟨w.heap.size + 1 + 1 + 1 + 1, 1, none⟩ (.slice ao2 n2 cap2)) := by
  have g0 := grown_drewN wr nq
  have f := h.call g0
  have R1 := Sl.kn h1 g0
  have R2 := Sl.kn h2 g0
  have hb3 := f.b3
  have hb4 := f.b4
  have hg := f.g
  generalize wr.drewN nq = v at *
  have g1 := grown_setCell v ⟨w.heap.size + 1 + 1 + 1, 0, none⟩ (.int .i64 r.next)
  have x1 := heap_setCell_same v (w.heap.size + 1 + 1 + 1) 0 _ 24 (.int .i64 r.next) hb3
  have y1 := row_of g1 hb4 (by simp <;> omega)
  have g2 := grown_setCell (v.setCell ⟨w.heap.size + 1 + 1 + 1, 0, none⟩ (.int .i64 r.next)) ⟨w.heap.size + 1 + 1 + 1, 1, none⟩ (.slice ao n cap)
  have x2 := heap_setCell_same _ (w.heap.size + 1 + 1 + 1) 1 _ 24 (.slice ao n cap) x1
  have y2 := row_of g2 y1 (by simp <;> omega)
  have g3 := grown_setCell ((v.setCell ⟨w.heap.size + 1 + 1 + 1, 0, none⟩ (.int .i64 r.next)).setCell ⟨w.heap.size + 1 + 1 + 1, 1, none⟩ (.slice ao n cap)) ⟨w.heap.size + 1 + 1 + 1 + 1, 0, none⟩ (.int .i64 r.next)
  have y3 := heap_setCell_same _ (w.heap.size + 1 + 1 + 1 + 1) 0 _ 24 (.int .i64 r.next) y2
  have x3 := row_of g3 x2 (by simp <;> omega)
  have g4 := grown_setCell (((v.setCell ⟨w.heap.size + 1 + 1 + 1, 0, none⟩ (.int .i64 r.next)).setCell ⟨w.heap.size + 1 + 1 + 1, 1, none⟩ (.slice ao n cap)).setCell ⟨w.heap.size + 1 + 1 + 1 + 1, 0, none⟩ (.int .i64 r.next)) ⟨w.heap.size + 1 + 1 + 1 + 1, 1, none⟩ (.slice ao2 n2 cap2)
  have y4 := heap_setCell_same _ (w.heap.size + 1 + 1 + 1 + 1) 1 _ 24 (.slice ao2 n2 cap2) y3
  have x4 := row_of g4 x3 (by simp <;> omega)
  have k12 := grown_trans g1 g2
  have k34 := grown_trans g3 g4
  refine bodyPost_ret (resCC1 hf ha hb hc (tyT r.next ao n cap) (tyT r.next ao2 n2 cap2) (by simpa using x4) (by simpa using y4)) hd ⟨_, _, rfl, ?_, ?_, ?_⟩
  · exact rd_kept (A := [.int .i64 0, .slice none 0 0]) (rd_kept (A := [.int .i64 0, .slice none 0 0]) R1 hb3 (by simp) k12) y2 (by simp) k34
  · exact rd_kept (A := [.int .i64 0, .slice none 0 0]) (rd_kept (A := [.int .i64 0, .slice none 0 0]) R2 hb3 (by simp) k12) y2 (by simp) k34
  · exact grown_newR (grown_newR hg k12 (show w.heap.size ≤ w.heap.size + 1 + 1 + 1 by omega)) k34 (show w.heap.size ≤ w.heap.size + 1 + 1 + 1 + 1 by omega)
set_option maxRecDepth 100000 in
set_option maxHeartbeats 4000000 in
theorem step_walk (t : Tb) (a : Ac) (s1 s2 : Value) (w : World) (hR : Rd w s1 t.ls) (hS : Rd w s2 t.ls) (hn : t.ls.length ≤ 1000000) :
    Calls Try.prog 21 #[tval t.next s1, tval t.next s2, aval a] w fun e w' => ∃ u1 u2, e = .returned (.tuple #[.agg #[.int .i64 (stp t a).next, u1], .agg #[.int .i64 (stp t a).next, u2], .bool true]) ∧ Rd w' u1 (stp t a).ls ∧ Rd w' u2 (stp t a).ls ∧ w.grownBy w' none := by
  obtain ⟨next, l⟩ := t
  simp only at hR hS hn ⊢
  obtain ⟨ao, cap, rfl, hc1, hc2⟩ := Sl.shape hR
  obtain ⟨ao2, cap2, rfl, hc3, hc4⟩ := Sl.shape hS
  have HR := hid hR
  have HS := hid hS
  clear hR hS
  obtain ⟨kd, n, ho, tk, now, d⟩ := a
  obtain ⟨r, hr⟩ : ∃ r, r = stp ⟨next, l⟩ ⟨kd, n, ho, tk, now, d⟩ := ⟨_, rfl⟩
  rw [← hr]
  have HRR := hid hr
  clear hr
  unfold tval aval
  obtain ⟨W, hW⟩ : ∃ W, W = (((((((w.alloc (.cells #[.int .i64 next, .slice ao l.length cap] 24)).alloc (.cells #[.int .i64 next, .slice ao2 l.length cap2] 24)).alloc (.cells #[.int .i64 kd, .int .i64 n, .int .i64 ho, .int .i64 tk, .int .i64 now, .int .i64 d] 35)).alloc (.cells #[.int .i64 0, .slice none 0 0] 24)).alloc (.cells #[.int .i64 0, .slice none 0 0] 24)).alloc (.cells #[.int .i64 0, .slice none 0 0] 24)).alloc (.cells #[.int .i64 0, .slice none 0 0] 24)) := ⟨_, rfl⟩
  have F0 := hid (show SF w W next (.slice ao l.length cap) (.slice ao2 l.length cap2) ⟨kd, n, ho, tk, now, d⟩ [.int .i64 0, .slice none 0 0] [.int .i64 0, .slice none 0 0] from by rw [hW]; exact SF.start w next _ _ ⟨kd, n, ho, tk, now, d⟩)
  have HWW := hid hW
  clear hW
  by_cases h0 : bits .and .i64 kd 3 = 0
  · have H0 := hid h0
    have t0 : (bits .and .i64 kd 3 == 0) = true := by rw [h0]; rfl
    obtain ⟨⟨⟨nx, L⟩, tok, er⟩, hq⟩ : ∃ q, acq cds ⟨next, l⟩ n ho now d = q := ⟨_, rfl⟩
    have HQ := hid hq
    have hL : L.length ≤ 65 := by have h := acq_len ⟨next, l⟩ n ho now d; rw [hq] at h; exact h
    have HE := hid (show r = if (er : Int) = 0 then ⟨nx, L⟩ else ⟨next, l⟩ from by rw [HRR.out]; unfold stp Ac.res Ac.op; simp only [h0, hq]; rfl)
    clear hq h0
    go_enter Try.func21, Try.ntmps21
    go_wp2_with fail
    rw [← HWW.out]
    refine (acqP_call (w0 := W) HQ.out (Sl.kn HR.out F0.out.g) (World.grownBy.refl _ _) hn).mono ?_
    rintro e w1 ⟨ao5, k5, cap5, rfl, M1⟩
    have F1 := hid (F0.out.call M1.out.2)
    have p00 : w1.cell? ⟨w.heap.size, 0, none⟩ = some (.int .i64 next) := by rw [cell_of_row _ _ _ _ _ _ F1.out.b0]; rfl
    have p01 : w1.cell? ⟨w.heap.size, 1, none⟩ = some (.slice ao l.length cap) := by rw [cell_of_row _ _ _ _ _ _ F1.out.b0]; rfl
    have p10 : w1.cell? ⟨w.heap.size + 1, 0, none⟩ = some (.int .i64 next) := by rw [cell_of_row _ _ _ _ _ _ F1.out.b1]; rfl
    have p11 : w1.cell? ⟨w.heap.size + 1, 1, none⟩ = some (.slice ao2 l.length cap2) := by rw [cell_of_row _ _ _ _ _ _ F1.out.b1]; rfl
    have p20 : w1.cell? ⟨w.heap.size + 1 + 1, 0, none⟩ = some (.int .i64 kd) := by rw [cell_of_row _ _ _ _ _ _ F1.out.b2]; rfl
    have p21 : w1.cell? ⟨w.heap.size + 1 + 1, 1, none⟩ = some (.int .i64 n) := by rw [cell_of_row _ _ _ _ _ _ F1.out.b2]; rfl
    have p22 : w1.cell? ⟨w.heap.size + 1 + 1, 2, none⟩ = some (.int .i64 ho) := by rw [cell_of_row _ _ _ _ _ _ F1.out.b2]; rfl
    have p23 : w1.cell? ⟨w.heap.size + 1 + 1, 3, none⟩ = some (.int .i64 tk) := by rw [cell_of_row _ _ _ _ _ _ F1.out.b2]; rfl
    have p24 : w1.cell? ⟨w.heap.size + 1 + 1, 4, none⟩ = some (.int .i64 now) := by rw [cell_of_row _ _ _ _ _ _ F1.out.b2]; rfl
    have p25 : w1.cell? ⟨w.heap.size + 1 + 1, 5, none⟩ = some (.int .i64 d) := by rw [cell_of_row _ _ _ _ _ _ F1.out.b2]; rfl
    have p30 : w1.cell? ⟨w.heap.size + 1 + 1 + 1, 0, none⟩ = some (.int .i64 0) := by rw [cell_of_row _ _ _ _ _ _ F1.out.b3]; rfl
    have q30 : w1.frozen? ⟨w.heap.size + 1 + 1 + 1, 0, none⟩ = false := frozen_of_row _ _ _ _ _ F1.out.b3
    have p31 : w1.cell? ⟨w.heap.size + 1 + 1 + 1, 1, none⟩ = some (.slice none 0 0) := by rw [cell_of_row _ _ _ _ _ _ F1.out.b3]; rfl
    have q31 : w1.frozen? ⟨w.heap.size + 1 + 1 + 1, 1, none⟩ = false := frozen_of_row _ _ _ _ _ F1.out.b3
    have p40 : w1.cell? ⟨w.heap.size + 1 + 1 + 1 + 1, 0, none⟩ = some (.int .i64 0) := by rw [cell_of_row _ _ _ _ _ _ F1.out.b4]; rfl
    have q40 : w1.frozen? ⟨w.heap.size + 1 + 1 + 1 + 1, 0, none⟩ = false := frozen_of_row _ _ _ _ _ F1.out.b4
    have p41 : w1.cell? ⟨w.heap.size + 1 + 1 + 1 + 1, 1, none⟩ = some (.slice none 0 0) := by rw [cell_of_row _ _ _ _ _ _ F1.out.b4]; rfl
    have q41 : w1.frozen? ⟨w.heap.size + 1 + 1 + 1 + 1, 1, none⟩ = false := frozen_of_row _ _ _ _ _ F1.out.b4
    have p50 : w1.cell? ⟨w.heap.size + 1 + 1 + 1 + 1 + 1, 0, none⟩ = some (.int .i64 0) := by rw [cell_of_row _ _ _ _ _ _ F1.out.b5]; rfl
    have p51 : w1.cell? ⟨w.heap.size + 1 + 1 + 1 + 1 + 1, 1, none⟩ = some (.slice none 0 0) := by rw [cell_of_row _ _ _ _ _ _ F1.out.b5]; rfl
    have p60 : w1.cell? ⟨w.heap.size + 1 + 1 + 1 + 1 + 1 + 1, 0, none⟩ = some (.int .i64 0) := by rw [cell_of_row _ _ _ _ _ _ F1.out.b6]; rfl
    have p61 : w1.cell? ⟨w.heap.size + 1 + 1 + 1 + 1 + 1 + 1, 1, none⟩ = some (.slice none 0 0) := by rw [cell_of_row _ _ _ _ _ _ F1.out.b6]; rfl
    go_wp2_with (first
      | (refine wpList_storeTYg rfl 24 (.tmp 9) (.tmp 31) rfl rfl rfl (tyT _ _ _ _) F1.out.b5 rfl ?_; intro w2 g2 h2; have F2 := hid (F1.out.s5 (X' := [.int .i64 nx, .slice ao5 k5 cap5]) g2 h2); have R2 := hid (rd_kept (A := [.int .i64 0, .slice none 0 0]) M1.out.1 F1.out.b5 (by simp) g2); clear g2 h2
         clear p00 p01 p10 p11 p20 p21 p22 p23 p24 p25 p30 p31 p40 p41 p50 p51 p60 p61 q30 q31 q40 q41
         have p00 : w2.cell? ⟨w.heap.size, 0, none⟩ = some (.int .i64 next) := by rw [cell_of_row _ _ _ _ _ _ F2.out.b0]; rfl
         have p01 : w2.cell? ⟨w.heap.size, 1, none⟩ = some (.slice ao l.length cap) := by rw [cell_of_row _ _ _ _ _ _ F2.out.b0]; rfl
         have p10 : w2.cell? ⟨w.heap.size + 1, 0, none⟩ = some (.int .i64 next) := by rw [cell_of_row _ _ _ _ _ _ F2.out.b1]; rfl
         have p11 : w2.cell? ⟨w.heap.size + 1, 1, none⟩ = some (.slice ao2 l.length cap2) := by rw [cell_of_row _ _ _ _ _ _ F2.out.b1]; rfl
         have p20 : w2.cell? ⟨w.heap.size + 1 + 1, 0, none⟩ = some (.int .i64 kd) := by rw [cell_of_row _ _ _ _ _ _ F2.out.b2]; rfl
         have p21 : w2.cell? ⟨w.heap.size + 1 + 1, 1, none⟩ = some (.int .i64 n) := by rw [cell_of_row _ _ _ _ _ _ F2.out.b2]; rfl
         have p22 : w2.cell? ⟨w.heap.size + 1 + 1, 2, none⟩ = some (.int .i64 ho) := by rw [cell_of_row _ _ _ _ _ _ F2.out.b2]; rfl
         have p23 : w2.cell? ⟨w.heap.size + 1 + 1, 3, none⟩ = some (.int .i64 tk) := by rw [cell_of_row _ _ _ _ _ _ F2.out.b2]; rfl
         have p24 : w2.cell? ⟨w.heap.size + 1 + 1, 4, none⟩ = some (.int .i64 now) := by rw [cell_of_row _ _ _ _ _ _ F2.out.b2]; rfl
         have p25 : w2.cell? ⟨w.heap.size + 1 + 1, 5, none⟩ = some (.int .i64 d) := by rw [cell_of_row _ _ _ _ _ _ F2.out.b2]; rfl
         have p30 : w2.cell? ⟨w.heap.size + 1 + 1 + 1, 0, none⟩ = some (.int .i64 0) := by rw [cell_of_row _ _ _ _ _ _ F2.out.b3]; rfl
         have q30 : w2.frozen? ⟨w.heap.size + 1 + 1 + 1, 0, none⟩ = false := frozen_of_row _ _ _ _ _ F2.out.b3
         have p31 : w2.cell? ⟨w.heap.size + 1 + 1 + 1, 1, none⟩ = some (.slice none 0 0) := by rw [cell_of_row _ _ _ _ _ _ F2.out.b3]; rfl
         have q31 : w2.frozen? ⟨w.heap.size + 1 + 1 + 1, 1, none⟩ = false := frozen_of_row _ _ _ _ _ F2.out.b3
         have p40 : w2.cell? ⟨w.heap.size + 1 + 1 + 1 + 1, 0, none⟩ = some (.int .i64 0) := by rw [cell_of_row _ _ _ _ _ _ F2.out.b4]; rfl
         have q40 : w2.frozen? ⟨w.heap.size + 1 + 1 + 1 + 1, 0, none⟩ = false := frozen_of_row _ _ _ _ _ F2.out.b4
         have p41 : w2.cell? ⟨w.heap.size + 1 + 1 + 1 + 1, 1, none⟩ = some (.slice none 0 0) := by rw [cell_of_row _ _ _ _ _ _ F2.out.b4]; rfl
         have q41 : w2.frozen? ⟨w.heap.size + 1 + 1 + 1 + 1, 1, none⟩ = false := frozen_of_row _ _ _ _ _ F2.out.b4
         have p50 : w2.cell? ⟨w.heap.size + 1 + 1 + 1 + 1 + 1, 0, none⟩ = some (.int .i64 nx) := by rw [cell_of_row _ _ _ _ _ _ F2.out.b5]; rfl
         have p51 : w2.cell? ⟨w.heap.size + 1 + 1 + 1 + 1 + 1, 1, none⟩ = some (.slice ao5 k5 cap5) := by rw [cell_of_row _ _ _ _ _ _ F2.out.b5]; rfl
         have p60 : w2.cell? ⟨w.heap.size + 1 + 1 + 1 + 1 + 1 + 1, 0, none⟩ = some (.int .i64 0) := by rw [cell_of_row _ _ _ _ _ _ F2.out.b6]; rfl
         have p61 : w2.cell? ⟨w.heap.size + 1 + 1 + 1 + 1 + 1 + 1, 1, none⟩ = some (.slice none 0 0) := by rw [cell_of_row _ _ _ _ _ _ F2.out.b6]; rfl)
      | fail)
    refine (acqR_call (w0 := w2) HQ.out (Sl.kn HS.out F2.out.g) (World.grownBy.refl _ _) hn).mono ?_
    rintro e w3 ⟨ao6, k6, cap6, rfl, M3⟩
    have F3 := hid (F2.out.call M3.out.2)
    clear p00 p01 p10 p11 p20 p21 p22 p23 p24 p25 p30 p31 p40 p41 p50 p51 p60 p61 q30 q31 q40 q41
    have p00 : w3.cell? ⟨w.heap.size, 0, none⟩ = some (.int .i64 next) := by rw [cell_of_row _ _ _ _ _ _ F3.out.b0]; rfl
    have p01 : w3.cell? ⟨w.heap.size, 1, none⟩ = some (.slice ao l.length cap) := by rw [cell_of_row _ _ _ _ _ _ F3.out.b0]; rfl
    have p10 : w3.cell? ⟨w.heap.size + 1, 0, none⟩ = some (.int .i64 next) := by rw [cell_of_row _ _ _ _ _ _ F3.out.b1]; rfl
    have p11 : w3.cell? ⟨w.heap.size + 1, 1, none⟩ = some (.slice ao2 l.length cap2) := by rw [cell_of_row _ _ _ _ _ _ F3.out.b1]; rfl
    have p20 : w3.cell? ⟨w.heap.size + 1 + 1, 0, none⟩ = some (.int .i64 kd) := by rw [cell_of_row _ _ _ _ _ _ F3.out.b2]; rfl
    have p21 : w3.cell? ⟨w.heap.size + 1 + 1, 1, none⟩ = some (.int .i64 n) := by rw [cell_of_row _ _ _ _ _ _ F3.out.b2]; rfl
    have p22 : w3.cell? ⟨w.heap.size + 1 + 1, 2, none⟩ = some (.int .i64 ho) := by rw [cell_of_row _ _ _ _ _ _ F3.out.b2]; rfl
    have p23 : w3.cell? ⟨w.heap.size + 1 + 1, 3, none⟩ = some (.int .i64 tk) := by rw [cell_of_row _ _ _ _ _ _ F3.out.b2]; rfl
    have p24 : w3.cell? ⟨w.heap.size + 1 + 1, 4, none⟩ = some (.int .i64 now) := by rw [cell_of_row _ _ _ _ _ _ F3.out.b2]; rfl
    have p25 : w3.cell? ⟨w.heap.size + 1 + 1, 5, none⟩ = some (.int .i64 d) := by rw [cell_of_row _ _ _ _ _ _ F3.out.b2]; rfl
    have p30 : w3.cell? ⟨w.heap.size + 1 + 1 + 1, 0, none⟩ = some (.int .i64 0) := by rw [cell_of_row _ _ _ _ _ _ F3.out.b3]; rfl
    have q30 : w3.frozen? ⟨w.heap.size + 1 + 1 + 1, 0, none⟩ = false := frozen_of_row _ _ _ _ _ F3.out.b3
    have p31 : w3.cell? ⟨w.heap.size + 1 + 1 + 1, 1, none⟩ = some (.slice none 0 0) := by rw [cell_of_row _ _ _ _ _ _ F3.out.b3]; rfl
    have q31 : w3.frozen? ⟨w.heap.size + 1 + 1 + 1, 1, none⟩ = false := frozen_of_row _ _ _ _ _ F3.out.b3
    have p40 : w3.cell? ⟨w.heap.size + 1 + 1 + 1 + 1, 0, none⟩ = some (.int .i64 0) := by rw [cell_of_row _ _ _ _ _ _ F3.out.b4]; rfl
    have q40 : w3.frozen? ⟨w.heap.size + 1 + 1 + 1 + 1, 0, none⟩ = false := frozen_of_row _ _ _ _ _ F3.out.b4
    have p41 : w3.cell? ⟨w.heap.size + 1 + 1 + 1 + 1, 1, none⟩ = some (.slice none 0 0) := by rw [cell_of_row _ _ _ _ _ _ F3.out.b4]; rfl
    have q41 : w3.frozen? ⟨w.heap.size + 1 + 1 + 1 + 1, 1, none⟩ = false := frozen_of_row _ _ _ _ _ F3.out.b4
    have p50 : w3.cell? ⟨w.heap.size + 1 + 1 + 1 + 1 + 1, 0, none⟩ = some (.int .i64 nx) := by rw [cell_of_row _ _ _ _ _ _ F3.out.b5]; rfl
    have p51 : w3.cell? ⟨w.heap.size + 1 + 1 + 1 + 1 + 1, 1, none⟩ = some (.slice ao5 k5 cap5) := by rw [cell_of_row _ _ _ _ _ _ F3.out.b5]; rfl
    have p60 : w3.cell? ⟨w.heap.size + 1 + 1 + 1 + 1 + 1 + 1, 0, none⟩ = some (.int .i64 0) := by rw [cell_of_row _ _ _ _ _ _ F3.out.b6]; rfl
    have p61 : w3.cell? ⟨w.heap.size + 1 + 1 + 1 + 1 + 1 + 1, 1, none⟩ = some (.slice none 0 0) := by rw [cell_of_row _ _ _ _ _ _ F3.out.b6]; rfl
    go_wp2_with (first
      | (refine wpList_storeTYg rfl 24 (.tmp 10) (.tmp 45) rfl rfl rfl (tyT _ _ _ _) F3.out.b6 rfl ?_; intro w4 g4 h4; have F4 := hid (F3.out.s6 (Y' := [.int .i64 nx, .slice ao6 k6 cap6]) g4 h4); have R4 := hid (And.intro (rd_kept (A := [.int .i64 0, .slice none 0 0]) (Sl.kn R2.out M3.out.2) F3.out.b6 (by simp) g4) (rd_kept (A := [.int .i64 0, .slice none 0 0]) M3.out.1 F3.out.b6 (by simp) g4)); clear g4 h4
         clear p00 p01 p10 p11 p20 p21 p22 p23 p24 p25 p30 p31 p40 p41 p50 p51 p60 p61 q30 q31 q40 q41
         have p00 : w4.cell? ⟨w.heap.size, 0, none⟩ = some (.int .i64 next) := by rw [cell_of_row _ _ _ _ _ _ F4.out.b0]; rfl
         have p01 : w4.cell? ⟨w.heap.size, 1, none⟩ = some (.slice ao l.length cap) := by rw [cell_of_row _ _ _ _ _ _ F4.out.b0]; rfl
         have p10 : w4.cell? ⟨w.heap.size + 1, 0, none⟩ = some (.int .i64 next) := by rw [cell_of_row _ _ _ _ _ _ F4.out.b1]; rfl
         have p11 : w4.cell? ⟨w.heap.size + 1, 1, none⟩ = some (.slice ao2 l.length cap2) := by rw [cell_of_row _ _ _ _ _ _ F4.out.b1]; rfl
         have p20 : w4.cell? ⟨w.heap.size + 1 + 1, 0, none⟩ = some (.int .i64 kd) := by rw [cell_of_row _ _ _ _ _ _ F4.out.b2]; rfl
         have p21 : w4.cell? ⟨w.heap.size + 1 + 1, 1, none⟩ = some (.int .i64 n) := by rw [cell_of_row _ _ _ _ _ _ F4.out.b2]; rfl
         have p22 : w4.cell? ⟨w.heap.size + 1 + 1, 2, none⟩ = some (.int .i64 ho) := by rw [cell_of_row _ _ _ _ _ _ F4.out.b2]; rfl
         have p23 : w4.cell? ⟨w.heap.size + 1 + 1, 3, none⟩ = some (.int .i64 tk) := by rw [cell_of_row _ _ _ _ _ _ F4.out.b2]; rfl
         have p24 : w4.cell? ⟨w.heap.size + 1 + 1, 4, none⟩ = some (.int .i64 now) := by rw [cell_of_row _ _ _ _ _ _ F4.out.b2]; rfl
         have p25 : w4.cell? ⟨w.heap.size + 1 + 1, 5, none⟩ = some (.int .i64 d) := by rw [cell_of_row _ _ _ _ _ _ F4.out.b2]; rfl
         have p30 : w4.cell? ⟨w.heap.size + 1 + 1 + 1, 0, none⟩ = some (.int .i64 0) := by rw [cell_of_row _ _ _ _ _ _ F4.out.b3]; rfl
         have q30 : w4.frozen? ⟨w.heap.size + 1 + 1 + 1, 0, none⟩ = false := frozen_of_row _ _ _ _ _ F4.out.b3
         have p31 : w4.cell? ⟨w.heap.size + 1 + 1 + 1, 1, none⟩ = some (.slice none 0 0) := by rw [cell_of_row _ _ _ _ _ _ F4.out.b3]; rfl
         have q31 : w4.frozen? ⟨w.heap.size + 1 + 1 + 1, 1, none⟩ = false := frozen_of_row _ _ _ _ _ F4.out.b3
         have p40 : w4.cell? ⟨w.heap.size + 1 + 1 + 1 + 1, 0, none⟩ = some (.int .i64 0) := by rw [cell_of_row _ _ _ _ _ _ F4.out.b4]; rfl
         have q40 : w4.frozen? ⟨w.heap.size + 1 + 1 + 1 + 1, 0, none⟩ = false := frozen_of_row _ _ _ _ _ F4.out.b4
         have p41 : w4.cell? ⟨w.heap.size + 1 + 1 + 1 + 1, 1, none⟩ = some (.slice none 0 0) := by rw [cell_of_row _ _ _ _ _ _ F4.out.b4]; rfl
         have q41 : w4.frozen? ⟨w.heap.size + 1 + 1 + 1 + 1, 1, none⟩ = false := frozen_of_row _ _ _ _ _ F4.out.b4
         have p50 : w4.cell? ⟨w.heap.size + 1 + 1 + 1 + 1 + 1, 0, none⟩ = some (.int .i64 nx) := by rw [cell_of_row _ _ _ _ _ _ F4.out.b5]; rfl
         have p51 : w4.cell? ⟨w.heap.size + 1 + 1 + 1 + 1 + 1, 1, none⟩ = some (.slice ao5 k5 cap5) := by rw [cell_of_row _ _ _ _ _ _ F4.out.b5]; rfl
         have p60 : w4.cell? ⟨w.heap.size + 1 + 1 + 1 + 1 + 1 + 1, 0, none⟩ = some (.int .i64 nx) := by rw [cell_of_row _ _ _ _ _ _ F4.out.b6]; rfl
         have p61 : w4.cell? ⟨w.heap.size + 1 + 1 + 1 + 1 + 1 + 1, 1, none⟩ = some (.slice ao6 k6 cap6) := by rw [cell_of_row _ _ _ _ _ _ F4.out.b6]; rfl)
      | fail)
    refine (sam_call (t := ⟨nx, L⟩) (w0 := w4) R4.out.1 R4.out.2 (World.grownBy.refl _ _) (Nat.le_trans hL (by decide))).mono ?_
    rintro e w5 ⟨rfl, g5⟩
    have F5 := hid (F4.out.call g5)
    have R5 := hid (And.intro (Sl.kn R4.out.1 g5) (Sl.kn R4.out.2 g5))
    clear g5
    clear p00 p01 p10 p11 p20 p21 p22 p23 p24 p25 p30 p31 p40 p41 p50 p51 p60 p61 q30 q31 q40 q41
    have p00 : w5.cell? ⟨w.heap.size, 0, none⟩ = some (.int .i64 next) := by rw [cell_of_row _ _ _ _ _ _ F5.out.b0]; rfl
    have p01 : w5.cell? ⟨w.heap.size, 1, none⟩ = some (.slice ao l.length cap) := by rw [cell_of_row _ _ _ _ _ _ F5.out.b0]; rfl
    have p10 : w5.cell? ⟨w.heap.size + 1, 0, none⟩ = some (.int .i64 next) := by rw [cell_of_row _ _ _ _ _ _ F5.out.b1]; rfl
    have p11 : w5.cell? ⟨w.heap.size + 1, 1, none⟩ = some (.slice ao2 l.length cap2) := by rw [cell_of_row _ _ _ _ _ _ F5.out.b1]; rfl
    have p20 : w5.cell? ⟨w.heap.size + 1 + 1, 0, none⟩ = some (.int .i64 kd) := by rw [cell_of_row _ _ _ _ _ _ F5.out.b2]; rfl
    have p21 : w5.cell? ⟨w.heap.size + 1 + 1, 1, none⟩ = some (.int .i64 n) := by rw [cell_of_row _ _ _ _ _ _ F5.out.b2]; rfl
    have p22 : w5.cell? ⟨w.heap.size + 1 + 1, 2, none⟩ = some (.int .i64 ho) := by rw [cell_of_row _ _ _ _ _ _ F5.out.b2]; rfl
    have p23 : w5.cell? ⟨w.heap.size + 1 + 1, 3, none⟩ = some (.int .i64 tk) := by rw [cell_of_row _ _ _ _ _ _ F5.out.b2]; rfl
    have p24 : w5.cell? ⟨w.heap.size + 1 + 1, 4, none⟩ = some (.int .i64 now) := by rw [cell_of_row _ _ _ _ _ _ F5.out.b2]; rfl
    have p25 : w5.cell? ⟨w.heap.size + 1 + 1, 5, none⟩ = some (.int .i64 d) := by rw [cell_of_row _ _ _ _ _ _ F5.out.b2]; rfl
    have p30 : w5.cell? ⟨w.heap.size + 1 + 1 + 1, 0, none⟩ = some (.int .i64 0) := by rw [cell_of_row _ _ _ _ _ _ F5.out.b3]; rfl
    have q30 : w5.frozen? ⟨w.heap.size + 1 + 1 + 1, 0, none⟩ = false := frozen_of_row _ _ _ _ _ F5.out.b3
    have p31 : w5.cell? ⟨w.heap.size + 1 + 1 + 1, 1, none⟩ = some (.slice none 0 0) := by rw [cell_of_row _ _ _ _ _ _ F5.out.b3]; rfl
    have q31 : w5.frozen? ⟨w.heap.size + 1 + 1 + 1, 1, none⟩ = false := frozen_of_row _ _ _ _ _ F5.out.b3
    have p40 : w5.cell? ⟨w.heap.size + 1 + 1 + 1 + 1, 0, none⟩ = some (.int .i64 0) := by rw [cell_of_row _ _ _ _ _ _ F5.out.b4]; rfl
    have q40 : w5.frozen? ⟨w.heap.size + 1 + 1 + 1 + 1, 0, none⟩ = false := frozen_of_row _ _ _ _ _ F5.out.b4
    have p41 : w5.cell? ⟨w.heap.size + 1 + 1 + 1 + 1, 1, none⟩ = some (.slice none 0 0) := by rw [cell_of_row _ _ _ _ _ _ F5.out.b4]; rfl
    have q41 : w5.frozen? ⟨w.heap.size + 1 + 1 + 1 + 1, 1, none⟩ = false := frozen_of_row _ _ _ _ _ F5.out.b4
    have p50 : w5.cell? ⟨w.heap.size + 1 + 1 + 1 + 1 + 1, 0, none⟩ = some (.int .i64 nx) := by rw [cell_of_row _ _ _ _ _ _ F5.out.b5]; rfl
    have p51 : w5.cell? ⟨w.heap.size + 1 + 1 + 1 + 1 + 1, 1, none⟩ = some (.slice ao5 k5 cap5) := by rw [cell_of_row _ _ _ _ _ _ F5.out.b5]; rfl
    have p60 : w5.cell? ⟨w.heap.size + 1 + 1 + 1 + 1 + 1 + 1, 0, none⟩ = some (.int .i64 nx) := by rw [cell_of_row _ _ _ _ _ _ F5.out.b6]; rfl
    have p61 : w5.cell? ⟨w.heap.size + 1 + 1 + 1 + 1 + 1 + 1, 1, none⟩ = some (.slice ao6 k6 cap6) := by rw [cell_of_row _ _ _ _ _ _ F5.out.b6]; rfl
    by_cases he : er = 0
    · have HF := hid (HE.out.trans (if_pos he))
      subst he
      go_wp2
      go_region
      all_goals go_wp2
      all_goals rw [HF.out]
      all_goals exact fin_step _ F5.out (r := ⟨nx, L⟩) R5.out.1 R5.out.2 rfl rfl rfl rfl rfl
    · have HF := hid (HE.out.trans (if_neg he))
      have hb : (er != 0) = true := by simpa using he
      go_wp2
      go_region
      all_goals go_wp2
      all_goals rw [HF.out]
      all_goals exact fin_step _ F5.out (r := ⟨next, l⟩) (Sl.kn HR.out F5.out.g) (Sl.kn HS.out F5.out.g) rfl rfl rfl rfl rfl
  by_cases h1 : bits .and .i64 kd 3 = 1
  · have H1 := hid h1
    have t0 : (bits .and .i64 kd 3 == 0) = false := by rw [h1]; rfl
    have t1 : (bits .and .i64 kd 3 == 1) = true := by rw [h1]; rfl
    obtain ⟨⟨⟨nx, L⟩, er⟩, hq⟩ : ∃ q, ren cds ⟨next, l⟩ n ho tk now d = q := ⟨_, rfl⟩
    have HQ := hid hq
    have hL : L.length ≤ 65 := by have h := ren_len ⟨next, l⟩ n ho tk now d; rw [hq] at h; exact h
    have HE := hid (show r = if (er : Int) = 0 then ⟨nx, L⟩ else ⟨next, l⟩ from by rw [HRR.out]; unfold stp Ac.res Ac.op; simp only [h1, hq]; rfl)
    clear hq h1
    go_enter Try.func21, Try.ntmps21
    go_wp2_with fail
    rw [← HWW.out]
    refine (renP_call (w0 := W) HQ.out (Sl.kn HR.out F0.out.g) (World.grownBy.refl _ _) hn).mono ?_
    rintro e w1 ⟨ao5, k5, cap5, rfl, M1⟩
    have F1 := hid (F0.out.call M1.out.2)
    have p00 : w1.cell? ⟨w.heap.size, 0, none⟩ = some (.int .i64 next) := by rw [cell_of_row _ _ _ _ _ _ F1.out.b0]; rfl
    have p01 : w1.cell? ⟨w.heap.size, 1, none⟩ = some (.slice ao l.length cap) := by rw [cell_of_row _ _ _ _ _ _ F1.out.b0]; rfl
    have p10 : w1.cell? ⟨w.heap.size + 1, 0, none⟩ = some (.int .i64 next) := by rw [cell_of_row _ _ _ _ _ _ F1.out.b1]; rfl
    have p11 : w1.cell? ⟨w.heap.size + 1, 1, none⟩ = some (.slice ao2 l.length cap2) := by rw [cell_of_row _ _ _ _ _ _ F1.out.b1]; rfl
    have p20 : w1.cell? ⟨w.heap.size + 1 + 1, 0, none⟩ = some (.int .i64 kd) := by rw [cell_of_row _ _ _ _ _ _ F1.out.b2]; rfl
    have p21 : w1.cell? ⟨w.heap.size + 1 + 1, 1, none⟩ = some (.int .i64 n) := by rw [cell_of_row _ _ _ _ _ _ F1.out.b2]; rfl
    have p22 : w1.cell? ⟨w.heap.size + 1 + 1, 2, none⟩ = some (.int .i64 ho) := by rw [cell_of_row _ _ _ _ _ _ F1.out.b2]; rfl
    have p23 : w1.cell? ⟨w.heap.size + 1 + 1, 3, none⟩ = some (.int .i64 tk) := by rw [cell_of_row _ _ _ _ _ _ F1.out.b2]; rfl
    have p24 : w1.cell? ⟨w.heap.size + 1 + 1, 4, none⟩ = some (.int .i64 now) := by rw [cell_of_row _ _ _ _ _ _ F1.out.b2]; rfl
    have p25 : w1.cell? ⟨w.heap.size + 1 + 1, 5, none⟩ = some (.int .i64 d) := by rw [cell_of_row _ _ _ _ _ _ F1.out.b2]; rfl
    have p30 : w1.cell? ⟨w.heap.size + 1 + 1 + 1, 0, none⟩ = some (.int .i64 0) := by rw [cell_of_row _ _ _ _ _ _ F1.out.b3]; rfl
    have q30 : w1.frozen? ⟨w.heap.size + 1 + 1 + 1, 0, none⟩ = false := frozen_of_row _ _ _ _ _ F1.out.b3
    have p31 : w1.cell? ⟨w.heap.size + 1 + 1 + 1, 1, none⟩ = some (.slice none 0 0) := by rw [cell_of_row _ _ _ _ _ _ F1.out.b3]; rfl
    have q31 : w1.frozen? ⟨w.heap.size + 1 + 1 + 1, 1, none⟩ = false := frozen_of_row _ _ _ _ _ F1.out.b3
    have p40 : w1.cell? ⟨w.heap.size + 1 + 1 + 1 + 1, 0, none⟩ = some (.int .i64 0) := by rw [cell_of_row _ _ _ _ _ _ F1.out.b4]; rfl
    have q40 : w1.frozen? ⟨w.heap.size + 1 + 1 + 1 + 1, 0, none⟩ = false := frozen_of_row _ _ _ _ _ F1.out.b4
    have p41 : w1.cell? ⟨w.heap.size + 1 + 1 + 1 + 1, 1, none⟩ = some (.slice none 0 0) := by rw [cell_of_row _ _ _ _ _ _ F1.out.b4]; rfl
    have q41 : w1.frozen? ⟨w.heap.size + 1 + 1 + 1 + 1, 1, none⟩ = false := frozen_of_row _ _ _ _ _ F1.out.b4
    have p50 : w1.cell? ⟨w.heap.size + 1 + 1 + 1 + 1 + 1, 0, none⟩ = some (.int .i64 0) := by rw [cell_of_row _ _ _ _ _ _ F1.out.b5]; rfl
    have p51 : w1.cell? ⟨w.heap.size + 1 + 1 + 1 + 1 + 1, 1, none⟩ = some (.slice none 0 0) := by rw [cell_of_row _ _ _ _ _ _ F1.out.b5]; rfl
    have p60 : w1.cell? ⟨w.heap.size + 1 + 1 + 1 + 1 + 1 + 1, 0, none⟩ = some (.int .i64 0) := by rw [cell_of_row _ _ _ _ _ _ F1.out.b6]; rfl
    have p61 : w1.cell? ⟨w.heap.size + 1 + 1 + 1 + 1 + 1 + 1, 1, none⟩ = some (.slice none 0 0) := by rw [cell_of_row _ _ _ _ _ _ F1.out.b6]; rfl
    go_wp2_with (first
      | (refine wpList_storeTYg rfl 24 (.tmp 9) (.tmp 68) rfl rfl rfl (tyT _ _ _ _) F1.out.b5 rfl ?_; intro w2 g2 h2; have F2 := hid (F1.out.s5 (X' := [.int .i64 nx, .slice ao5 k5 cap5]) g2 h2); have R2 := hid (rd_kept (A := [.int .i64 0, .slice none 0 0]) M1.out.1 F1.out.b5 (by simp) g2); clear g2 h2
         clear p00 p01 p10 p11 p20 p21 p22 p23 p24 p25 p30 p31 p40 p41 p50 p51 p60 p61 q30 q31 q40 q41
         have p00 : w2.cell? ⟨w.heap.size, 0, none⟩ = some (.int .i64 next) := by rw [cell_of_row _ _ _ _ _ _ F2.out.b0]; rfl
         have p01 : w2.cell? ⟨w.heap.size, 1, none⟩ = some (.slice ao l.length cap) := by rw [cell_of_row _ _ _ _ _ _ F2.out.b0]; rfl
         have p10 : w2.cell? ⟨w.heap.size + 1, 0, none⟩ = some (.int .i64 next) := by rw [cell_of_row _ _ _ _ _ _ F2.out.b1]; rfl
         have p11 : w2.cell? ⟨w.heap.size + 1, 1, none⟩ = some (.slice ao2 l.length cap2) := by rw [cell_of_row _ _ _ _ _ _ F2.out.b1]; rfl
         have p20 : w2.cell? ⟨w.heap.size + 1 + 1, 0, none⟩ = some (.int .i64 kd) := by rw [cell_of_row _ _ _ _ _ _ F2.out.b2]; rfl
         have p21 : w2.cell? ⟨w.heap.size + 1 + 1, 1, none⟩ = some (.int .i64 n) := by rw [cell_of_row _ _ _ _ _ _ F2.out.b2]; rfl
         have p22 : w2.cell? ⟨w.heap.size + 1 + 1, 2, none⟩ = some (.int .i64 ho) := by rw [cell_of_row _ _ _ _ _ _ F2.out.b2]; rfl
         have p23 : w2.cell? ⟨w.heap.size + 1 + 1, 3, none⟩ = some (.int .i64 tk) := by rw [cell_of_row _ _ _ _ _ _ F2.out.b2]; rfl
         have p24 : w2.cell? ⟨w.heap.size + 1 + 1, 4, none⟩ = some (.int .i64 now) := by rw [cell_of_row _ _ _ _ _ _ F2.out.b2]; rfl
         have p25 : w2.cell? ⟨w.heap.size + 1 + 1, 5, none⟩ = some (.int .i64 d) := by rw [cell_of_row _ _ _ _ _ _ F2.out.b2]; rfl
         have p30 : w2.cell? ⟨w.heap.size + 1 + 1 + 1, 0, none⟩ = some (.int .i64 0) := by rw [cell_of_row _ _ _ _ _ _ F2.out.b3]; rfl
         have q30 : w2.frozen? ⟨w.heap.size + 1 + 1 + 1, 0, none⟩ = false := frozen_of_row _ _ _ _ _ F2.out.b3
         have p31 : w2.cell? ⟨w.heap.size + 1 + 1 + 1, 1, none⟩ = some (.slice none 0 0) := by rw [cell_of_row _ _ _ _ _ _ F2.out.b3]; rfl
         have q31 : w2.frozen? ⟨w.heap.size + 1 + 1 + 1, 1, none⟩ = false := frozen_of_row _ _ _ _ _ F2.out.b3
         have p40 : w2.cell? ⟨w.heap.size + 1 + 1 + 1 + 1, 0, none⟩ = some (.int .i64 0) := by rw [cell_of_row _ _ _ _ _ _ F2.out.b4]; rfl
         have q40 : w2.frozen? ⟨w.heap.size + 1 + 1 + 1 + 1, 0, none⟩ = false := frozen_of_row _ _ _ _ _ F2.out.b4
         have p41 : w2.cell? ⟨w.heap.size + 1 + 1 + 1 + 1, 1, none⟩ = some (.slice none 0 0) := by rw [cell_of_row _ _ _ _ _ _ F2.out.b4]; rfl
         have q41 : w2.frozen? ⟨w.heap.size + 1 + 1 + 1 + 1, 1, none⟩ = false := frozen_of_row _ _ _ _ _ F2.out.b4
         have p50 : w2.cell? ⟨w.heap.size + 1 + 1 + 1 + 1 + 1, 0, none⟩ = some (.int .i64 nx) := by rw [cell_of_row _ _ _ _ _ _ F2.out.b5]; rfl
         have p51 : w2.cell? ⟨w.heap.size + 1 + 1 + 1 + 1 + 1, 1, none⟩ = some (.slice ao5 k5 cap5) := by rw [cell_of_row _ _ _ _ _ _ F2.out.b5]; rfl
         have p60 : w2.cell? ⟨w.heap.size + 1 + 1 + 1 + 1 + 1 + 1, 0, none⟩ = some (.int .i64 0) := by rw [cell_of_row _ _ _ _ _ _ F2.out.b6]; rfl
         have p61 : w2.cell? ⟨w.heap.size + 1 + 1 + 1 + 1 + 1 + 1, 1, none⟩ = some (.slice none 0 0) := by rw [cell_of_row _ _ _ _ _ _ F2.out.b6]; rfl)
      | fail)
    refine (renR_call (w0 := w2) HQ.out (Sl.kn HS.out F2.out.g) (World.grownBy.refl _ _) hn).mono ?_
    rintro e w3 ⟨ao6, k6, cap6, rfl, M3⟩
    have F3 := hid (F2.out.call M3.out.2)
    clear p00 p01 p10 p11 p20 p21 p22 p23 p24 p25 p30 p31 p40 p41 p50 p51 p60 p61 q30 q31 q40 q41
    have p00 : w3.cell? ⟨w.heap.size, 0, none⟩ = some (.int .i64 next) := by rw [cell_of_row _ _ _ _ _ _ F3.out.b0]; rfl
    have p01 : w3.cell? ⟨w.heap.size, 1, none⟩ = some (.slice ao l.length cap) := by rw [cell_of_row _ _ _ _ _ _ F3.out.b0]; rfl
    have p10 : w3.cell? ⟨w.heap.size + 1, 0, none⟩ = some (.int .i64 next) := by rw [cell_of_row _ _ _ _ _ _ F3.out.b1]; rfl
    have p11 : w3.cell? ⟨w.heap.size + 1, 1, none⟩ = some (.slice ao2 l.length cap2) := by rw [cell_of_row _ _ _ _ _ _ F3.out.b1]; rfl
    have p20 : w3.cell? ⟨w.heap.size + 1 + 1, 0, none⟩ = some (.int .i64 kd) := by rw [cell_of_row _ _ _ _ _ _ F3.out.b2]; rfl
    have p21 : w3.cell? ⟨w.heap.size + 1 + 1, 1, none⟩ = some (.int .i64 n) := by rw [cell_of_row _ _ _ _ _ _ F3.out.b2]; rfl
    have p22 : w3.cell? ⟨w.heap.size + 1 + 1, 2, none⟩ = some (.int .i64 ho) := by rw [cell_of_row _ _ _ _ _ _ F3.out.b2]; rfl
    have p23 : w3.cell? ⟨w.heap.size + 1 + 1, 3, none⟩ = some (.int .i64 tk) := by rw [cell_of_row _ _ _ _ _ _ F3.out.b2]; rfl
    have p24 : w3.cell? ⟨w.heap.size + 1 + 1, 4, none⟩ = some (.int .i64 now) := by rw [cell_of_row _ _ _ _ _ _ F3.out.b2]; rfl
    have p25 : w3.cell? ⟨w.heap.size + 1 + 1, 5, none⟩ = some (.int .i64 d) := by rw [cell_of_row _ _ _ _ _ _ F3.out.b2]; rfl
    have p30 : w3.cell? ⟨w.heap.size + 1 + 1 + 1, 0, none⟩ = some (.int .i64 0) := by rw [cell_of_row _ _ _ _ _ _ F3.out.b3]; rfl
    have q30 : w3.frozen? ⟨w.heap.size + 1 + 1 + 1, 0, none⟩ = false := frozen_of_row _ _ _ _ _ F3.out.b3
    have p31 : w3.cell? ⟨w.heap.size + 1 + 1 + 1, 1, none⟩ = some (.slice none 0 0) := by rw [cell_of_row _ _ _ _ _ _ F3.out.b3]; rfl
    have q31 : w3.frozen? ⟨w.heap.size + 1 + 1 + 1, 1, none⟩ = false := frozen_of_row _ _ _ _ _ F3.out.b3
    have p40 : w3.cell? ⟨w.heap.size + 1 + 1 + 1 + 1, 0, none⟩ = some (.int .i64 0) := by rw [cell_of_row _ _ _ _ _ _ F3.out.b4]; rfl
    have q40 : w3.frozen? ⟨w.heap.size + 1 + 1 + 1 + 1, 0, none⟩ = false := frozen_of_row _ _ _ _ _ F3.out.b4
    have p41 : w3.cell? ⟨w.heap.size + 1 + 1 + 1 + 1, 1, none⟩ = some (.slice none 0 0) := by rw [cell_of_row _ _ _ _ _ _ F3.out.b4]; rfl
    have q41 : w3.frozen? ⟨w.heap.size + 1 + 1 + 1 + 1, 1, none⟩ = false := frozen_of_row _ _ _ _ _ F3.out.b4
    have p50 : w3.cell? ⟨w.heap.size + 1 + 1 + 1 + 1 + 1, 0, none⟩ = some (.int .i64 nx) := by rw [cell_of_row _ _ _ _ _ _ F3.out.b5]; rfl
    have p51 : w3.cell? ⟨w.heap.size + 1 + 1 + 1 + 1 + 1, 1, none⟩ = some (.slice ao5 k5 cap5) := by rw [cell_of_row _ _ _ _ _ _ F3.out.b5]; rfl
    have p60 : w3.cell? ⟨w.heap.size + 1 + 1 + 1 + 1 + 1 + 1, 0, none⟩ = some (.int .i64 0) := by rw [cell_of_row _ _ _ _ _ _ F3.out.b6]; rfl
    have p61 : w3.cell? ⟨w.heap.size + 1 + 1 + 1 + 1 + 1 + 1, 1, none⟩ = some (.slice none 0 0) := by rw [cell_of_row _ _ _ _ _ _ F3.out.b6]; rfl
    go_wp2_with (first
      | (refine wpList_storeTYg rfl 24 (.tmp 10) (.tmp 83) rfl rfl rfl (tyT _ _ _ _) F3.out.b6 rfl ?_; intro w4 g4 h4; have F4 := hid (F3.out.s6 (Y' := [.int .i64 nx, .slice ao6 k6 cap6]) g4 h4); have R4 := hid (And.intro (rd_kept (A := [.int .i64 0, .slice none 0 0]) (Sl.kn R2.out M3.out.2) F3.out.b6 (by simp) g4) (rd_kept (A := [.int .i64 0, .slice none 0 0]) M3.out.1 F3.out.b6 (by simp) g4)); clear g4 h4
         clear p00 p01 p10 p11 p20 p21 p22 p23 p24 p25 p30 p31 p40 p41 p50 p51 p60 p61 q30 q31 q40 q41
         have p00 : w4.cell? ⟨w.heap.size, 0, none⟩ = some (.int .i64 next) := by rw [cell_of_row _ _ _ _ _ _ F4.out.b0]; rfl
         have p01 : w4.cell? ⟨w.heap.size, 1, none⟩ = some (.slice ao l.length cap) := by rw [cell_of_row _ _ _ _ _ _ F4.out.b0]; rfl
         have p10 : w4.cell? ⟨w.heap.size + 1, 0, none⟩ = some (.int .i64 next) := by rw [cell_of_row _ _ _ _ _ _ F4.out.b1]; rfl
         have p11 : w4.cell? ⟨w.heap.size + 1, 1, none⟩ = some (.slice ao2 l.length cap2) := by rw [cell_of_row _ _ _ _ _ _ F4.out.b1]; rfl
         have p20 : w4.cell? ⟨w.heap.size + 1 + 1, 0, none⟩ = some (.int .i64 kd) := by rw [cell_of_row _ _ _ _ _ _ F4.out.b2]; rfl
         have p21 : w4.cell? ⟨w.heap.size + 1 + 1, 1, none⟩ = some (.int .i64 n) := by rw [cell_of_row _ _ _ _ _ _ F4.out.b2]; rfl
         have p22 : w4.cell? ⟨w.heap.size + 1 + 1, 2, none⟩ = some (.int .i64 ho) := by rw [cell_of_row _ _ _ _ _ _ F4.out.b2]; rfl
         have p23 : w4.cell? ⟨w.heap.size + 1 + 1, 3, none⟩ = some (.int .i64 tk) := by rw [cell_of_row _ _ _ _ _ _ F4.out.b2]; rfl
         have p24 : w4.cell? ⟨w.heap.size + 1 + 1, 4, none⟩ = some (.int .i64 now) := by rw [cell_of_row _ _ _ _ _ _ F4.out.b2]; rfl
         have p25 : w4.cell? ⟨w.heap.size + 1 + 1, 5, none⟩ = some (.int .i64 d) := by rw [cell_of_row _ _ _ _ _ _ F4.out.b2]; rfl
         have p30 : w4.cell? ⟨w.heap.size + 1 + 1 + 1, 0, none⟩ = some (.int .i64 0) := by rw [cell_of_row _ _ _ _ _ _ F4.out.b3]; rfl
         have q30 : w4.frozen? ⟨w.heap.size + 1 + 1 + 1, 0, none⟩ = false := frozen_of_row _ _ _ _ _ F4.out.b3
         have p31 : w4.cell? ⟨w.heap.size + 1 + 1 + 1, 1, none⟩ = some (.slice none 0 0) := by rw [cell_of_row _ _ _ _ _ _ F4.out.b3]; rfl
         have q31 : w4.frozen? ⟨w.heap.size + 1 + 1 + 1, 1, none⟩ = false := frozen_of_row _ _ _ _ _ F4.out.b3
         have p40 : w4.cell? ⟨w.heap.size + 1 + 1 + 1 + 1, 0, none⟩ = some (.int .i64 0) := by rw [cell_of_row _ _ _ _ _ _ F4.out.b4]; rfl
         have q40 : w4.frozen? ⟨w.heap.size + 1 + 1 + 1 + 1, 0, none⟩ = false := frozen_of_row _ _ _ _ _ F4.out.b4
         have p41 : w4.cell? ⟨w.heap.size + 1 + 1 + 1 + 1, 1, none⟩ = some (.slice none 0 0) := by rw [cell_of_row _ _ _ _ _ _ F4.out.b4]; rfl
         have q41 : w4.frozen? ⟨w.heap.size + 1 + 1 + 1 + 1, 1, none⟩ = false := frozen_of_row _ _ _ _ _ F4.out.b4
         have p50 : w4.cell? ⟨w.heap.size + 1 + 1 + 1 + 1 + 1, 0, none⟩ = some (.int .i64 nx) := by rw [cell_of_row _ _ _ _ _ _ F4.out.b5]; rfl
         have p51 : w4.cell? ⟨w.heap.size + 1 + 1 + 1 + 1 + 1, 1, none⟩ = some (.slice ao5 k5 cap5) := by rw [cell_of_row _ _ _ _ _ _ F4.out.b5]; rfl
         have p60 : w4.cell? ⟨w.heap.size + 1 + 1 + 1 + 1 + 1 + 1, 0, none⟩ = some (.int .i64 nx) := by rw [cell_of_row _ _ _ _ _ _ F4.out.b6]; rfl
         have p61 : w4.cell? ⟨w.heap.size + 1 + 1 + 1 + 1 + 1 + 1, 1, none⟩ = some (.slice ao6 k6 cap6) := by rw [cell_of_row _ _ _ _ _ _ F4.out.b6]; rfl)
      | fail)
    refine (sam_call (t := ⟨nx, L⟩) (w0 := w4) R4.out.1 R4.out.2 (World.grownBy.refl _ _) (Nat.le_trans hL (by decide))).mono ?_
    rintro e w5 ⟨rfl, g5⟩
    have F5 := hid (F4.out.call g5)
    have R5 := hid (And.intro (Sl.kn R4.out.1 g5) (Sl.kn R4.out.2 g5))
    clear g5
    clear p00 p01 p10 p11 p20 p21 p22 p23 p24 p25 p30 p31 p40 p41 p50 p51 p60 p61 q30 q31 q40 q41
    have p00 : w5.cell? ⟨w.heap.size, 0, none⟩ = some (.int .i64 next) := by rw [cell_of_row _ _ _ _ _ _ F5.out.b0]; rfl
    have p01 : w5.cell? ⟨w.heap.size, 1, none⟩ = some (.slice ao l.length cap) := by rw [cell_of_row _ _ _ _ _ _ F5.out.b0]; rfl
    have p10 : w5.cell? ⟨w.heap.size + 1, 0, none⟩ = some (.int .i64 next) := by rw [cell_of_row _ _ _ _ _ _ F5.out.b1]; rfl
    have p11 : w5.cell? ⟨w.heap.size + 1, 1, none⟩ = some (.slice ao2 l.length cap2) := by rw [cell_of_row _ _ _ _ _ _ F5.out.b1]; rfl
    have p20 : w5.cell? ⟨w.heap.size + 1 + 1, 0, none⟩ = some (.int .i64 kd) := by rw [cell_of_row _ _ _ _ _ _ F5.out.b2]; rfl
    have p21 : w5.cell? ⟨w.heap.size + 1 + 1, 1, none⟩ = some (.int .i64 n) := by rw [cell_of_row _ _ _ _ _ _ F5.out.b2]; rfl
    have p22 : w5.cell? ⟨w.heap.size + 1 + 1, 2, none⟩ = some (.int .i64 ho) := by rw [cell_of_row _ _ _ _ _ _ F5.out.b2]; rfl
    have p23 : w5.cell? ⟨w.heap.size + 1 + 1, 3, none⟩ = some (.int .i64 tk) := by rw [cell_of_row _ _ _ _ _ _ F5.out.b2]; rfl
    have p24 : w5.cell? ⟨w.heap.size + 1 + 1, 4, none⟩ = some (.int .i64 now) := by rw [cell_of_row _ _ _ _ _ _ F5.out.b2]; rfl
    have p25 : w5.cell? ⟨w.heap.size + 1 + 1, 5, none⟩ = some (.int .i64 d) := by rw [cell_of_row _ _ _ _ _ _ F5.out.b2]; rfl
    have p30 : w5.cell? ⟨w.heap.size + 1 + 1 + 1, 0, none⟩ = some (.int .i64 0) := by rw [cell_of_row _ _ _ _ _ _ F5.out.b3]; rfl
    have q30 : w5.frozen? ⟨w.heap.size + 1 + 1 + 1, 0, none⟩ = false := frozen_of_row _ _ _ _ _ F5.out.b3
    have p31 : w5.cell? ⟨w.heap.size + 1 + 1 + 1, 1, none⟩ = some (.slice none 0 0) := by rw [cell_of_row _ _ _ _ _ _ F5.out.b3]; rfl
    have q31 : w5.frozen? ⟨w.heap.size + 1 + 1 + 1, 1, none⟩ = false := frozen_of_row _ _ _ _ _ F5.out.b3
    have p40 : w5.cell? ⟨w.heap.size + 1 + 1 + 1 + 1, 0, none⟩ = some (.int .i64 0) := by rw [cell_of_row _ _ _ _ _ _ F5.out.b4]; rfl
    have q40 : w5.frozen? ⟨w.heap.size + 1 + 1 + 1 + 1, 0, none⟩ = false := frozen_of_row _ _ _ _ _ F5.out.b4
    have p41 : w5.cell? ⟨w.heap.size + 1 + 1 + 1 + 1, 1, none⟩ = some (.slice none 0 0) := by rw [cell_of_row _ _ _ _ _ _ F5.out.b4]; rfl
    have q41 : w5.frozen? ⟨w.heap.size + 1 + 1 + 1 + 1, 1, none⟩ = false := frozen_of_row _ _ _ _ _ F5.out.b4
    have p50 : w5.cell? ⟨w.heap.size + 1 + 1 + 1 + 1 + 1, 0, none⟩ = some (.int .i64 nx) := by rw [cell_of_row _ _ _ _ _ _ F5.out.b5]; rfl
    have p51 : w5.cell? ⟨w.heap.size + 1 + 1 + 1 + 1 + 1, 1, none⟩ = some (.slice ao5 k5 cap5) := by rw [cell_of_row _ _ _ _ _ _ F5.out.b5]; rfl
    have p60 : w5.cell? ⟨w.heap.size + 1 + 1 + 1 + 1 + 1 + 1, 0, none⟩ = some (.int .i64 nx) := by rw [cell_of_row _ _ _ _ _ _ F5.out.b6]; rfl
    have p61 : w5.cell? ⟨w.heap.size + 1 + 1 + 1 + 1 + 1 + 1, 1, none⟩ = some (.slice ao6 k6 cap6) := by rw [cell_of_row _ _ _ _ _ _ F5.out.b6]; rfl
    by_cases he : er = 0
    · have HF := hid (HE.out.trans (if_pos he))
      subst he
      go_wp2
      go_region
      all_goals go_wp2
      all_goals rw [HF.out]
      all_goals exact fin_step _ F5.out (r := ⟨nx, L⟩) R5.out.1 R5.out.2 rfl rfl rfl rfl rfl
    · have HF := hid (HE.out.trans (if_neg he))
      have hb : (er != 0) = true := by simpa using he
      go_wp2
      go_region
      all_goals go_wp2
      all_goals rw [HF.out]
      all_goals exact fin_step _ F5.out (r := ⟨next, l⟩) (Sl.kn HR.out F5.out.g) (Sl.kn HS.out F5.out.g) rfl rfl rfl rfl rfl
  by_cases h2 : bits .and .i64 kd 3 = 2
  · have H2 := hid h2
    have t0 : (bits .and .i64 kd 3 == 0) = false := by rw [h2]; rfl
    have t1 : (bits .and .i64 kd 3 == 1) = false := by rw [h2]; rfl
    have t2 : (bits .and .i64 kd 3 == 2) = true := by rw [h2]; rfl
    obtain ⟨⟨⟨nx, L⟩, er⟩, hq⟩ : ∃ q, rel cds ⟨next, l⟩ n ho tk = q := ⟨_, rfl⟩
    have HQ := hid hq
    have hL : L.length ≤ 65 := by have h := rel_len ⟨next, l⟩ n ho tk; rw [hq] at h; exact h
    have HE := hid (show r = if (er : Int) = 0 then ⟨nx, L⟩ else ⟨next, l⟩ from by rw [HRR.out]; unfold stp Ac.res Ac.op; simp only [h2, hq]; rfl)
    clear hq h2
    go_enter Try.func21, Try.ntmps21
    go_wp2_with fail
    rw [← HWW.out]
    refine (relP_call (w0 := W) HQ.out (Sl.kn HR.out F0.out.g) (World.grownBy.refl _ _) hn).mono ?_
    rintro e w1 ⟨ao5, k5, cap5, rfl, M1⟩
    have F1 := hid (F0.out.call M1.out.2)
    have p00 : w1.cell? ⟨w.heap.size, 0, none⟩ = some (.int .i64 next) := by rw [cell_of_row _ _ _ _ _ _ F1.out.b0]; rfl
    have p01 : w1.cell? ⟨w.heap.size, 1, none⟩ = some (.slice ao l.length cap) := by rw [cell_of_row _ _ _ _ _ _ F1.out.b0]; rfl
    have p10 : w1.cell? ⟨w.heap.size + 1, 0, none⟩ = some (.int .i64 next) := by rw [cell_of_row _ _ _ _ _ _ F1.out.b1]; rfl
    have p11 : w1.cell? ⟨w.heap.size + 1, 1, none⟩ = some (.slice ao2 l.length cap2) := by rw [cell_of_row _ _ _ _ _ _ F1.out.b1]; rfl
    have p20 : w1.cell? ⟨w.heap.size + 1 + 1, 0, none⟩ = some (.int .i64 kd) := by rw [cell_of_row _ _ _ _ _ _ F1.out.b2]; rfl
    have p21 : w1.cell? ⟨w.heap.size + 1 + 1, 1, none⟩ = some (.int .i64 n) := by rw [cell_of_row _ _ _ _ _ _ F1.out.b2]; rfl
    have p22 : w1.cell? ⟨w.heap.size + 1 + 1, 2, none⟩ = some (.int .i64 ho) := by rw [cell_of_row _ _ _ _ _ _ F1.out.b2]; rfl
    have p23 : w1.cell? ⟨w.heap.size + 1 + 1, 3, none⟩ = some (.int .i64 tk) := by rw [cell_of_row _ _ _ _ _ _ F1.out.b2]; rfl
    have p24 : w1.cell? ⟨w.heap.size + 1 + 1, 4, none⟩ = some (.int .i64 now) := by rw [cell_of_row _ _ _ _ _ _ F1.out.b2]; rfl
    have p25 : w1.cell? ⟨w.heap.size + 1 + 1, 5, none⟩ = some (.int .i64 d) := by rw [cell_of_row _ _ _ _ _ _ F1.out.b2]; rfl
    have p30 : w1.cell? ⟨w.heap.size + 1 + 1 + 1, 0, none⟩ = some (.int .i64 0) := by rw [cell_of_row _ _ _ _ _ _ F1.out.b3]; rfl
    have q30 : w1.frozen? ⟨w.heap.size + 1 + 1 + 1, 0, none⟩ = false := frozen_of_row _ _ _ _ _ F1.out.b3
    have p31 : w1.cell? ⟨w.heap.size + 1 + 1 + 1, 1, none⟩ = some (.slice none 0 0) := by rw [cell_of_row _ _ _ _ _ _ F1.out.b3]; rfl
    have q31 : w1.frozen? ⟨w.heap.size + 1 + 1 + 1, 1, none⟩ = false := frozen_of_row _ _ _ _ _ F1.out.b3
    have p40 : w1.cell? ⟨w.heap.size + 1 + 1 + 1 + 1, 0, none⟩ = some (.int .i64 0) := by rw [cell_of_row _ _ _ _ _ _ F1.out.b4]; rfl
    have q40 : w1.frozen? ⟨w.heap.size + 1 + 1 + 1 + 1, 0, none⟩ = false := frozen_of_row _ _ _ _ _ F1.out.b4
    have p41 : w1.cell? ⟨w.heap.size + 1 + 1 + 1 + 1, 1, none⟩ = some (.slice none 0 0) := by rw [cell_of_row _ _ _ _ _ _ F1.out.b4]; rfl
    have q41 : w1.frozen? ⟨w.heap.size + 1 + 1 + 1 + 1, 1, none⟩ = false := frozen_of_row _ _ _ _ _ F1.out.b4
    have p50 : w1.cell? ⟨w.heap.size + 1 + 1 + 1 + 1 + 1, 0, none⟩ = some (.int .i64 0) := by rw [cell_of_row _ _ _ _ _ _ F1.out.b5]; rfl
    have p51 : w1.cell? ⟨w.heap.size + 1 + 1 + 1 + 1 + 1, 1, none⟩ = some (.slice none 0 0) := by rw [cell_of_row _ _ _ _ _ _ F1.out.b5]; rfl
    have p60 : w1.cell? ⟨w.heap.size + 1 + 1 + 1 + 1 + 1 + 1, 0, none⟩ = some (.int .i64 0) := by rw [cell_of_row _ _ _ _ _ _ F1.out.b6]; rfl
    have p61 : w1.cell? ⟨w.heap.size + 1 + 1 + 1 + 1 + 1 + 1, 1, none⟩ = some (.slice none 0 0) := by rw [cell_of_row _ _ _ _ _ _ F1.out.b6]; rfl
    go_wp2_with (first
      | (refine wpList_storeTYg rfl 24 (.tmp 9) (.tmp 96) rfl rfl rfl (tyT _ _ _ _) F1.out.b5 rfl ?_; intro w2 g2 h2; have F2 := hid (F1.out.s5 (X' := [.int .i64 nx, .slice ao5 k5 cap5]) g2 h2); have R2 := hid (rd_kept (A := [.int .i64 0, .slice none 0 0]) M1.out.1 F1.out.b5 (by simp) g2); clear g2 h2
         clear p00 p01 p10 p11 p20 p21 p22 p23 p24 p25 p30 p31 p40 p41 p50 p51 p60 p61 q30 q31 q40 q41
         have p00 : w2.cell? ⟨w.heap.size, 0, none⟩ = some (.int .i64 next) := by rw [cell_of_row _ _ _ _ _ _ F2.out.b0]; rfl
         have p01 : w2.cell? ⟨w.heap.size, 1, none⟩ = some (.slice ao l.length cap) := by rw [cell_of_row _ _ _ _ _ _ F2.out.b0]; rfl
         have p10 : w2.cell? ⟨w.heap.size + 1, 0, none⟩ = some (.int .i64 next) := by rw [cell_of_row _ _ _ _ _ _ F2.out.b1]; rfl
         have p11 : w2.cell? ⟨w.heap.size + 1, 1, none⟩ = some (.slice ao2 l.length cap2) := by rw [cell_of_row _ _ _ _ _ _ F2.out.b1]; rfl
         have p20 : w2.cell? ⟨w.heap.size + 1 + 1, 0, none⟩ = some (.int .i64 kd) := by rw [cell_of_row _ _ _ _ _ _ F2.out.b2]; rfl
         have p21 : w2.cell? ⟨w.heap.size + 1 + 1, 1, none⟩ = some (.int .i64 n) := by rw [cell_of_row _ _ _ _ _ _ F2.out.b2]; rfl
         have p22 : w2.cell? ⟨w.heap.size + 1 + 1, 2, none⟩ = some (.int .i64 ho) := by rw [cell_of_row _ _ _ _ _ _ F2.out.b2]; rfl
         have p23 : w2.cell? ⟨w.heap.size + 1 + 1, 3, none⟩ = some (.int .i64 tk) := by rw [cell_of_row _ _ _ _ _ _ F2.out.b2]; rfl
         have p24 : w2.cell? ⟨w.heap.size + 1 + 1, 4, none⟩ = some (.int .i64 now) := by rw [cell_of_row _ _ _ _ _ _ F2.out.b2]; rfl
         have p25 : w2.cell? ⟨w.heap.size + 1 + 1, 5, none⟩ = some (.int .i64 d) := by rw [cell_of_row _ _ _ _ _ _ F2.out.b2]; rfl
         have p30 : w2.cell? ⟨w.heap.size + 1 + 1 + 1, 0, none⟩ = some (.int .i64 0) := by rw [cell_of_row _ _ _ _ _ _ F2.out.b3]; rfl
         have q30 : w2.frozen? ⟨w.heap.size + 1 + 1 + 1, 0, none⟩ = false := frozen_of_row _ _ _ _ _ F2.out.b3
         have p31 : w2.cell? ⟨w.heap.size + 1 + 1 + 1, 1, none⟩ = some (.slice none 0 0) := by rw [cell_of_row _ _ _ _ _ _ F2.out.b3]; rfl
         have q31 : w2.frozen? ⟨w.heap.size + 1 + 1 + 1, 1, none⟩ = false := frozen_of_row _ _ _ _ _ F2.out.b3
         have p40 : w2.cell? ⟨w.heap.size + 1 + 1 + 1 + 1, 0, none⟩ = some (.int .i64 0) := by rw [cell_of_row _ _ _ _ _ _ F2.out.b4]; rfl
         have q40 : w2.frozen? ⟨w.heap.size + 1 + 1 + 1 + 1, 0, none⟩ = false := frozen_of_row _ _ _ _ _ F2.out.b4
         have p41 : w2.cell? ⟨w.heap.size + 1 + 1 + 1 + 1, 1, none⟩ = some (.slice none 0 0) := by rw [cell_of_row _ _ _ _ _ _ F2.out.b4]; rfl
         have q41 : w2.frozen? ⟨w.heap.size + 1 + 1 + 1 + 1, 1, none⟩ = false := frozen_of_row _ _ _ _ _ F2.out.b4
         have p50 : w2.cell? ⟨w.heap.size + 1 + 1 + 1 + 1 + 1, 0, none⟩ = some (.int .i64 nx) := by rw [cell_of_row _ _ _ _ _ _ F2.out.b5]; rfl
         have p51 : w2.cell? ⟨w.heap.size + 1 + 1 + 1 + 1 + 1, 1, none⟩ = some (.slice ao5 k5 cap5) := by rw [cell_of_row _ _ _ _ _ _ F2.out.b5]; rfl
         have p60 : w2.cell? ⟨w.heap.size + 1 + 1 + 1 + 1 + 1 + 1, 0, none⟩ = some (.int .i64 0) := by rw [cell_of_row _ _ _ _ _ _ F2.out.b6]; rfl
         have p61 : w2.cell? ⟨w.heap.size + 1 + 1 + 1 + 1 + 1 + 1, 1, none⟩ = some (.slice none 0 0) := by rw [cell_of_row _ _ _ _ _ _ F2.out.b6]; rfl)
      | fail)
    refine (relR_call (w0 := w2) HQ.out (Sl.kn HS.out F2.out.g) (World.grownBy.refl _ _) hn).mono ?_
    rintro e w3 ⟨ao6, k6, cap6, rfl, M3⟩
    have F3 := hid (F2.out.call M3.out.2)
    clear p00 p01 p10 p11 p20 p21 p22 p23 p24 p25 p30 p31 p40 p41 p50 p51 p60 p61 q30 q31 q40 q41
    have p00 : w3.cell? ⟨w.heap.size, 0, none⟩ = some (.int .i64 next) := by rw [cell_of_row _ _ _ _ _ _ F3.out.b0]; rfl
    have p01 : w3.cell? ⟨w.heap.size, 1, none⟩ = some (.slice ao l.length cap) := by rw [cell_of_row _ _ _ _ _ _ F3.out.b0]; rfl
    have p10 : w3.cell? ⟨w.heap.size + 1, 0, none⟩ = some (.int .i64 next) := by rw [cell_of_row _ _ _ _ _ _ F3.out.b1]; rfl
    have p11 : w3.cell? ⟨w.heap.size + 1, 1, none⟩ = some (.slice ao2 l.length cap2) := by rw [cell_of_row _ _ _ _ _ _ F3.out.b1]; rfl
    have p20 : w3.cell? ⟨w.heap.size + 1 + 1, 0, none⟩ = some (.int .i64 kd) := by rw [cell_of_row _ _ _ _ _ _ F3.out.b2]; rfl
    have p21 : w3.cell? ⟨w.heap.size + 1 + 1, 1, none⟩ = some (.int .i64 n) := by rw [cell_of_row _ _ _ _ _ _ F3.out.b2]; rfl
    have p22 : w3.cell? ⟨w.heap.size + 1 + 1, 2, none⟩ = some (.int .i64 ho) := by rw [cell_of_row _ _ _ _ _ _ F3.out.b2]; rfl
    have p23 : w3.cell? ⟨w.heap.size + 1 + 1, 3, none⟩ = some (.int .i64 tk) := by rw [cell_of_row _ _ _ _ _ _ F3.out.b2]; rfl
    have p24 : w3.cell? ⟨w.heap.size + 1 + 1, 4, none⟩ = some (.int .i64 now) := by rw [cell_of_row _ _ _ _ _ _ F3.out.b2]; rfl
    have p25 : w3.cell? ⟨w.heap.size + 1 + 1, 5, none⟩ = some (.int .i64 d) := by rw [cell_of_row _ _ _ _ _ _ F3.out.b2]; rfl
    have p30 : w3.cell? ⟨w.heap.size + 1 + 1 + 1, 0, none⟩ = some (.int .i64 0) := by rw [cell_of_row _ _ _ _ _ _ F3.out.b3]; rfl
    have q30 : w3.frozen? ⟨w.heap.size + 1 + 1 + 1, 0, none⟩ = false := frozen_of_row _ _ _ _ _ F3.out.b3
    have p31 : w3.cell? ⟨w.heap.size + 1 + 1 + 1, 1, none⟩ = some (.slice none 0 0) := by rw [cell_of_row _ _ _ _ _ _ F3.out.b3]; rfl
    have q31 : w3.frozen? ⟨w.heap.size + 1 + 1 + 1, 1, none⟩ = false := frozen_of_row _ _ _ _ _ F3.out.b3
    have p40 : w3.cell? ⟨w.heap.size + 1 + 1 + 1 + 1, 0, none⟩ = some (.int .i64 0) := by rw [cell_of_row _ _ _ _ _ _ F3.out.b4]; rfl
    have q40 : w3.frozen? ⟨w.heap.size + 1 + 1 + 1 + 1, 0, none⟩ = false := frozen_of_row _ _ _ _ _ F3.out.b4
    have p41 : w3.cell? ⟨w.heap.size + 1 + 1 + 1 + 1, 1, none⟩ = some (.slice none 0 0) := by rw [cell_of_row _ _ _ _ _ _ F3.out.b4]; rfl
    have q41 : w3.frozen? ⟨w.heap.size + 1 + 1 + 1 + 1, 1, none⟩ = false := frozen_of_row _ _ _ _ _ F3.out.b4
    have p50 : w3.cell? ⟨w.heap.size + 1 + 1 + 1 + 1 + 1, 0, none⟩ = some (.int .i64 nx) := by rw [cell_of_row _ _ _ _ _ _ F3.out.b5]; rfl
    have p51 : w3.cell? ⟨w.heap.size + 1 + 1 + 1 + 1 + 1, 1, none⟩ = some (.slice ao5 k5 cap5) := by rw [cell_of_row _ _ _ _ _ _ F3.out.b5]; rfl
    have p60 : w3.cell? ⟨w.heap.size + 1 + 1 + 1 + 1 + 1 + 1, 0, none⟩ = some (.int .i64 0) := by rw [cell_of_row _ _ _ _ _ _ F3.out.b6]; rfl
    have p61 : w3.cell? ⟨w.heap.size + 1 + 1 + 1 + 1 + 1 + 1, 1, none⟩ = some (.slice none 0 0) := by rw [cell_of_row _ _ _ _ _ _ F3.out.b6]; rfl
    go_wp2_with (first
      | (refine wpList_storeTYg rfl 24 (.tmp 10) (.tmp 107) rfl rfl rfl (tyT _ _ _ _) F3.out.b6 rfl ?_; intro w4 g4 h4; have F4 := hid (F3.out.s6 (Y' := [.int .i64 nx, .slice ao6 k6 cap6]) g4 h4); have R4 := hid (And.intro (rd_kept (A := [.int .i64 0, .slice none 0 0]) (Sl.kn R2.out M3.out.2) F3.out.b6 (by simp) g4) (rd_kept (A := [.int .i64 0, .slice none 0 0]) M3.out.1 F3.out.b6 (by simp) g4)); clear g4 h4
         clear p00 p01 p10 p11 p20 p21 p22 p23 p24 p25 p30 p31 p40 p41 p50 p51 p60 p61 q30 q31 q40 q41
         have p00 : w4.cell? ⟨w.heap.size, 0, none⟩ = some (.int .i64 next) := by rw [cell_of_row _ _ _ _ _ _ F4.out.b0]; rfl
         have p01 : w4.cell? ⟨w.heap.size, 1, none⟩ = some (.slice ao l.length cap) := by rw [cell_of_row _ _ _ _ _ _ F4.out.b0]; rfl
         have p10 : w4.cell? ⟨w.heap.size + 1, 0, none⟩ = some (.int .i64 next) := by rw [cell_of_row _ _ _ _ _ _ F4.out.b1]; rfl
         have p11 : w4.cell? ⟨w.heap.size + 1, 1, none⟩ = some (.slice ao2 l.length cap2) := by rw [cell_of_row _ _ _ _ _ _ F4.out.b1]; rfl
         have p20 : w4.cell? ⟨w.heap.size + 1 + 1, 0, none⟩ = some (.int .i64 kd) := by rw [cell_of_row _ _ _ _ _ _ F4.out.b2]; rfl
         have p21 : w4.cell? ⟨w.heap.size + 1 + 1, 1, none⟩ = some (.int .i64 n) := by rw [cell_of_row _ _ _ _ _ _ F4.out.b2]; rfl
         have p22 : w4.cell? ⟨w.heap.size + 1 + 1, 2, none⟩ = some (.int .i64 ho) := by rw [cell_of_row _ _ _ _ _ _ F4.out.b2]; rfl
         have p23 : w4.cell? ⟨w.heap.size + 1 + 1, 3, none⟩ = some (.int .i64 tk) := by rw [cell_of_row _ _ _ _ _ _ F4.out.b2]; rfl
         have p24 : w4.cell? ⟨w.heap.size + 1 + 1, 4, none⟩ = some (.int .i64 now) := by rw [cell_of_row _ _ _ _ _ _ F4.out.b2]; rfl
         have p25 : w4.cell? ⟨w.heap.size + 1 + 1, 5, none⟩ = some (.int .i64 d) := by rw [cell_of_row _ _ _ _ _ _ F4.out.b2]; rfl
         have p30 : w4.cell? ⟨w.heap.size + 1 + 1 + 1, 0, none⟩ = some (.int .i64 0) := by rw [cell_of_row _ _ _ _ _ _ F4.out.b3]; rfl
         have q30 : w4.frozen? ⟨w.heap.size + 1 + 1 + 1, 0, none⟩ = false := frozen_of_row _ _ _ _ _ F4.out.b3
         have p31 : w4.cell? ⟨w.heap.size + 1 + 1 + 1, 1, none⟩ = some (.slice none 0 0) := by rw [cell_of_row _ _ _ _ _ _ F4.out.b3]; rfl
         have q31 : w4.frozen? ⟨w.heap.size + 1 + 1 + 1, 1, none⟩ = false := frozen_of_row _ _ _ _ _ F4.out.b3
         have p40 : w4.cell? ⟨w.heap.size + 1 + 1 + 1 + 1, 0, none⟩ = some (.int .i64 0) := by rw [cell_of_row _ _ _ _ _ _ F4.out.b4]; rfl
         have q40 : w4.frozen? ⟨w.heap.size + 1 + 1 + 1 + 1, 0, none⟩ = false := frozen_of_row _ _ _ _ _ F4.out.b4
         have p41 : w4.cell? ⟨w.heap.size + 1 + 1 + 1 + 1, 1, none⟩ = some (.slice none 0 0) := by rw [cell_of_row _ _ _ _ _ _ F4.out.b4]; rfl
         have q41 : w4.frozen? ⟨w.heap.size + 1 + 1 + 1 + 1, 1, none⟩ = false := frozen_of_row _ _ _ _ _ F4.out.b4
         have p50 : w4.cell? ⟨w.heap.size + 1 + 1 + 1 + 1 + 1, 0, none⟩ = some (.int .i64 nx) := by rw [cell_of_row _ _ _ _ _ _ F4.out.b5]; rfl
         have p51 : w4.cell? ⟨w.heap.size + 1 + 1 + 1 + 1 + 1, 1, none⟩ = some (.slice ao5 k5 cap5) := by rw [cell_of_row _ _ _ _ _ _ F4.out.b5]; rfl
         have p60 : w4.cell? ⟨w.heap.size + 1 + 1 + 1 + 1 + 1 + 1, 0, none⟩ = some (.int .i64 nx) := by rw [cell_of_row _ _ _ _ _ _ F4.out.b6]; rfl
         have p61 : w4.cell? ⟨w.heap.size + 1 + 1 + 1 + 1 + 1 + 1, 1, none⟩ = some (.slice ao6 k6 cap6) := by rw [cell_of_row _ _ _ _ _ _ F4.out.b6]; rfl)
      | fail)
    refine (sam_call (t := ⟨nx, L⟩) (w0 := w4) R4.out.1 R4.out.2 (World.grownBy.refl _ _) (Nat.le_trans hL (by decide))).mono ?_
    rintro e w5 ⟨rfl, g5⟩
    have F5 := hid (F4.out.call g5)
    have R5 := hid (And.intro (Sl.kn R4.out.1 g5) (Sl.kn R4.out.2 g5))
    clear g5
    clear p00 p01 p10 p11 p20 p21 p22 p23 p24 p25 p30 p31 p40 p41 p50 p51 p60 p61 q30 q31 q40 q41
    have p00 : w5.cell? ⟨w.heap.size, 0, none⟩ = some (.int .i64 next) := by rw [cell_of_row _ _ _ _ _ _ F5.out.b0]; rfl
    have p01 : w5.cell? ⟨w.heap.size, 1, none⟩ = some (.slice ao l.length cap) := by rw [cell_of_row _ _ _ _ _ _ F5.out.b0]; rfl
    have p10 : w5.cell? ⟨w.heap.size + 1, 0, none⟩ = some (.int .i64 next) := by rw [cell_of_row _ _ _ _ _ _ F5.out.b1]; rfl
    have p11 : w5.cell? ⟨w.heap.size + 1, 1, none⟩ = some (.slice ao2 l.length cap2) := by rw [cell_of_row _ _ _ _ _ _ F5.out.b1]; rfl
    have p20 : w5.cell? ⟨w.heap.size + 1 + 1, 0, none⟩ = some (.int .i64 kd) := by rw [cell_of_row _ _ _ _ _ _ F5.out.b2]; rfl
    have p21 : w5.cell? ⟨w.heap.size + 1 + 1, 1, none⟩ = some (.int .i64 n) := by rw [cell_of_row _ _ _ _ _ _ F5.out.b2]; rfl
    have p22 : w5.cell? ⟨w.heap.size + 1 + 1, 2, none⟩ = some (.int .i64 ho) := by rw [cell_of_row _ _ _ _ _ _ F5.out.b2]; rfl
    have p23 : w5.cell? ⟨w.heap.size + 1 + 1, 3, none⟩ = some (.int .i64 tk) := by rw [cell_of_row _ _ _ _ _ _ F5.out.b2]; rfl
    have p24 : w5.cell? ⟨w.heap.size + 1 + 1, 4, none⟩ = some (.int .i64 now) := by rw [cell_of_row _ _ _ _ _ _ F5.out.b2]; rfl
    have p25 : w5.cell? ⟨w.heap.size + 1 + 1, 5, none⟩ = some (.int .i64 d) := by rw [cell_of_row _ _ _ _ _ _ F5.out.b2]; rfl
    have p30 : w5.cell? ⟨w.heap.size + 1 + 1 + 1, 0, none⟩ = some (.int .i64 0) := by rw [cell_of_row _ _ _ _ _ _ F5.out.b3]; rfl
    have q30 : w5.frozen? ⟨w.heap.size + 1 + 1 + 1, 0, none⟩ = false := frozen_of_row _ _ _ _ _ F5.out.b3
    have p31 : w5.cell? ⟨w.heap.size + 1 + 1 + 1, 1, none⟩ = some (.slice none 0 0) := by rw [cell_of_row _ _ _ _ _ _ F5.out.b3]; rfl
    have q31 : w5.frozen? ⟨w.heap.size + 1 + 1 + 1, 1, none⟩ = false := frozen_of_row _ _ _ _ _ F5.out.b3
    have p40 : w5.cell? ⟨w.heap.size + 1 + 1 + 1 + 1, 0, none⟩ = some (.int .i64 0) := by rw [cell_of_row _ _ _ _ _ _ F5.out.b4]; rfl
    have q40 : w5.frozen? ⟨w.heap.size + 1 + 1 + 1 + 1, 0, none⟩ = false := frozen_of_row _ _ _ _ _ F5.out.b4
    have p41 : w5.cell? ⟨w.heap.size + 1 + 1 + 1 + 1, 1, none⟩ = some (.slice none 0 0) := by rw [cell_of_row _ _ _ _ _ _ F5.out.b4]; rfl
    have q41 : w5.frozen? ⟨w.heap.size + 1 + 1 + 1 + 1, 1, none⟩ = false := frozen_of_row _ _ _ _ _ F5.out.b4
    have p50 : w5.cell? ⟨w.heap.size + 1 + 1 + 1 + 1 + 1, 0, none⟩ = some (.int .i64 nx) := by rw [cell_of_row _ _ _ _ _ _ F5.out.b5]; rfl
    have p51 : w5.cell? ⟨w.heap.size + 1 + 1 + 1 + 1 + 1, 1, none⟩ = some (.slice ao5 k5 cap5) := by rw [cell_of_row _ _ _ _ _ _ F5.out.b5]; rfl
    have p60 : w5.cell? ⟨w.heap.size + 1 + 1 + 1 + 1 + 1 + 1, 0, none⟩ = some (.int .i64 nx) := by rw [cell_of_row _ _ _ _ _ _ F5.out.b6]; rfl
    have p61 : w5.cell? ⟨w.heap.size + 1 + 1 + 1 + 1 + 1 + 1, 1, none⟩ = some (.slice ao6 k6 cap6) := by rw [cell_of_row _ _ _ _ _ _ F5.out.b6]; rfl
    by_cases he : er = 0
    · have HF := hid (HE.out.trans (if_pos he))
      subst he
      go_wp2
      go_region
      all_goals go_wp2
      all_goals rw [HF.out]
      all_goals exact fin_step _ F5.out (r := ⟨nx, L⟩) R5.out.1 R5.out.2 rfl rfl rfl rfl rfl
    · have HF := hid (HE.out.trans (if_neg he))
      have hb : (er != 0) = true := by simpa using he
      go_wp2
      go_region
      all_goals go_wp2
      all_goals rw [HF.out]
      all_goals exact fin_step _ F5.out (r := ⟨next, l⟩) (Sl.kn HR.out F5.out.g) (Sl.kn HS.out F5.out.g) rfl rfl rfl rfl rfl
  by_cases h3 : bits .and .i64 kd 3 = 3
  · have H3 := hid h3
    have t0 : (bits .and .i64 kd 3 == 0) = false := by rw [h3]; rfl
    have t1 : (bits .and .i64 kd 3 == 1) = false := by rw [h3]; rfl
    have t2 : (bits .and .i64 kd 3 == 2) = false := by rw [h3]; rfl
    have t3 : (bits .and .i64 kd 3 == 3) = true := by rw [h3]; rfl
    obtain ⟨⟨nx, L⟩, hq⟩ : ∃ q, expd ⟨next, l⟩ now = q := ⟨_, rfl⟩
    have HQ := hid hq
    have hL : L.length ≤ 65 := by have h := expd_len ⟨next, l⟩ now; rw [hq] at h; exact h
    have HE := hid (show r = if (0 : Int) = 0 then ⟨nx, L⟩ else ⟨next, l⟩ from by rw [HRR.out]; unfold stp Ac.res Ac.op; simp only [h3, hq]; rfl)
    clear hq h3
    go_enter Try.func21, Try.ntmps21
    go_wp2_with fail
    rw [← HWW.out]
    refine (expP_call (w0 := W) HQ.out (Sl.kn HR.out F0.out.g) (World.grownBy.refl _ _) hn).mono ?_
    rintro e w1 ⟨ao5, k5, cap5, rfl, M1⟩
    have F1 := hid (F0.out.call M1.out.2)
    have p00 : w1.cell? ⟨w.heap.size, 0, none⟩ = some (.int .i64 next) := by rw [cell_of_row _ _ _ _ _ _ F1.out.b0]; rfl
    have p01 : w1.cell? ⟨w.heap.size, 1, none⟩ = some (.slice ao l.length cap) := by rw [cell_of_row _ _ _ _ _ _ F1.out.b0]; rfl
    have p10 : w1.cell? ⟨w.heap.size + 1, 0, none⟩ = some (.int .i64 next) := by rw [cell_of_row _ _ _ _ _ _ F1.out.b1]; rfl
    have p11 : w1.cell? ⟨w.heap.size + 1, 1, none⟩ = some (.slice ao2 l.length cap2) := by rw [cell_of_row _ _ _ _ _ _ F1.out.b1]; rfl
    have p20 : w1.cell? ⟨w.heap.size + 1 + 1, 0, none⟩ = some (.int .i64 kd) := by rw [cell_of_row _ _ _ _ _ _ F1.out.b2]; rfl
    have p21 : w1.cell? ⟨w.heap.size + 1 + 1, 1, none⟩ = some (.int .i64 n) := by rw [cell_of_row _ _ _ _ _ _ F1.out.b2]; rfl
    have p22 : w1.cell? ⟨w.heap.size + 1 + 1, 2, none⟩ = some (.int .i64 ho) := by rw [cell_of_row _ _ _ _ _ _ F1.out.b2]; rfl
    have p23 : w1.cell? ⟨w.heap.size + 1 + 1, 3, none⟩ = some (.int .i64 tk) := by rw [cell_of_row _ _ _ _ _ _ F1.out.b2]; rfl
    have p24 : w1.cell? ⟨w.heap.size + 1 + 1, 4, none⟩ = some (.int .i64 now) := by rw [cell_of_row _ _ _ _ _ _ F1.out.b2]; rfl
    have p25 : w1.cell? ⟨w.heap.size + 1 + 1, 5, none⟩ = some (.int .i64 d) := by rw [cell_of_row _ _ _ _ _ _ F1.out.b2]; rfl
    have p30 : w1.cell? ⟨w.heap.size + 1 + 1 + 1, 0, none⟩ = some (.int .i64 0) := by rw [cell_of_row _ _ _ _ _ _ F1.out.b3]; rfl
    have q30 : w1.frozen? ⟨w.heap.size + 1 + 1 + 1, 0, none⟩ = false := frozen_of_row _ _ _ _ _ F1.out.b3
    have p31 : w1.cell? ⟨w.heap.size + 1 + 1 + 1, 1, none⟩ = some (.slice none 0 0) := by rw [cell_of_row _ _ _ _ _ _ F1.out.b3]; rfl
    have q31 : w1.frozen? ⟨w.heap.size + 1 + 1 + 1, 1, none⟩ = false := frozen_of_row _ _ _ _ _ F1.out.b3
    have p40 : w1.cell? ⟨w.heap.size + 1 + 1 + 1 + 1, 0, none⟩ = some (.int .i64 0) := by rw [cell_of_row _ _ _ _ _ _ F1.out.b4]; rfl
    have q40 : w1.frozen? ⟨w.heap.size + 1 + 1 + 1 + 1, 0, none⟩ = false := frozen_of_row _ _ _ _ _ F1.out.b4
    have p41 : w1.cell? ⟨w.heap.size + 1 + 1 + 1 + 1, 1, none⟩ = some (.slice none 0 0) := by rw [cell_of_row _ _ _ _ _ _ F1.out.b4]; rfl
    have q41 : w1.frozen? ⟨w.heap.size + 1 + 1 + 1 + 1, 1, none⟩ = false := frozen_of_row _ _ _ _ _ F1.out.b4
    have p50 : w1.cell? ⟨w.heap.size + 1 + 1 + 1 + 1 + 1, 0, none⟩ = some (.int .i64 0) := by rw [cell_of_row _ _ _ _ _ _ F1.out.b5]; rfl
    have p51 : w1.cell? ⟨w.heap.size + 1 + 1 + 1 + 1 + 1, 1, none⟩ = some (.slice none 0 0) := by rw [cell_of_row _ _ _ _ _ _ F1.out.b5]; rfl
    have p60 : w1.cell? ⟨w.heap.size + 1 + 1 + 1 + 1 + 1 + 1, 0, none⟩ = some (.int .i64 0) := by rw [cell_of_row _ _ _ _ _ _ F1.out.b6]; rfl
    have p61 : w1.cell? ⟨w.heap.size + 1 + 1 + 1 + 1 + 1 + 1, 1, none⟩ = some (.slice none 0 0) := by rw [cell_of_row _ _ _ _ _ _ F1.out.b6]; rfl
    go_wp2_with (first
      | (refine wpList_storeTYg rfl 24 (.tmp 9) (.tmp 114) rfl rfl rfl (tyT _ _ _ _) F1.out.b5 rfl ?_; intro w2 g2 h2; have F2 := hid (F1.out.s5 (X' := [.int .i64 nx, .slice ao5 k5 cap5]) g2 h2); have R2 := hid (rd_kept (A := [.int .i64 0, .slice none 0 0]) M1.out.1 F1.out.b5 (by simp) g2); clear g2 h2
         clear p00 p01 p10 p11 p20 p21 p22 p23 p24 p25 p30 p31 p40 p41 p50 p51 p60 p61 q30 q31 q40 q41
         have p00 : w2.cell? ⟨w.heap.size, 0, none⟩ = some (.int .i64 next) := by rw [cell_of_row _ _ _ _ _ _ F2.out.b0]; rfl
         have p01 : w2.cell? ⟨w.heap.size, 1, none⟩ = some (.slice ao l.length cap) := by rw [cell_of_row _ _ _ _ _ _ F2.out.b0]; rfl
         have p10 : w2.cell? ⟨w.heap.size + 1, 0, none⟩ = some (.int .i64 next) := by rw [cell_of_row _ _ _ _ _ _ F2.out.b1]; rfl
         have p11 : w2.cell? ⟨w.heap.size + 1, 1, none⟩ = some (.slice ao2 l.length cap2) := by rw [cell_of_row _ _ _ _ _ _ F2.out.b1]; rfl
         have p20 : w2.cell? ⟨w.heap.size + 1 + 1, 0, none⟩ = some (.int .i64 kd) := by rw [cell_of_row _ _ _ _ _ _ F2.out.b2]; rfl
         have p21 : w2.cell? ⟨w.heap.size + 1 + 1, 1, none⟩ = some (.int .i64 n) := by rw [cell_of_row _ _ _ _ _ _ F2.out.b2]; rfl
         have p22 : w2.cell? ⟨w.heap.size + 1 + 1, 2, none⟩ = some (.int .i64 ho) := by rw [cell_of_row _ _ _ _ _ _ F2.out.b2]; rfl
         have p23 : w2.cell? ⟨w.heap.size + 1 + 1, 3, none⟩ = some (.int .i64 tk) := by rw [cell_of_row _ _ _ _ _ _ F2.out.b2]; rfl
         have p24 : w2.cell? ⟨w.heap.size + 1 + 1, 4, none⟩ = some (.int .i64 now) := by rw [cell_of_row _ _ _ _ _ _ F2.out.b2]; rfl
         have p25 : w2.cell? ⟨w.heap.size + 1 + 1, 5, none⟩ = some (.int .i64 d) := by rw [cell_of_row _ _ _ _ _ _ F2.out.b2]; rfl
         have p30 : w2.cell? ⟨w.heap.size + 1 + 1 + 1, 0, none⟩ = some (.int .i64 0) := by rw [cell_of_row _ _ _ _ _ _ F2.out.b3]; rfl
         have q30 : w2.frozen? ⟨w.heap.size + 1 + 1 + 1, 0, none⟩ = false := frozen_of_row _ _ _ _ _ F2.out.b3
         have p31 : w2.cell? ⟨w.heap.size + 1 + 1 + 1, 1, none⟩ = some (.slice none 0 0) := by rw [cell_of_row _ _ _ _ _ _ F2.out.b3]; rfl
         have q31 : w2.frozen? ⟨w.heap.size + 1 + 1 + 1, 1, none⟩ = false := frozen_of_row _ _ _ _ _ F2.out.b3
         have p40 : w2.cell? ⟨w.heap.size + 1 + 1 + 1 + 1, 0, none⟩ = some (.int .i64 0) := by rw [cell_of_row _ _ _ _ _ _ F2.out.b4]; rfl
         have q40 : w2.frozen? ⟨w.heap.size + 1 + 1 + 1 + 1, 0, none⟩ = false := frozen_of_row _ _ _ _ _ F2.out.b4
         have p41 : w2.cell? ⟨w.heap.size + 1 + 1 + 1 + 1, 1, none⟩ = some (.slice none 0 0) := by rw [cell_of_row _ _ _ _ _ _ F2.out.b4]; rfl
         have q41 : w2.frozen? ⟨w.heap.size + 1 + 1 + 1 + 1, 1, none⟩ = false := frozen_of_row _ _ _ _ _ F2.out.b4
         have p50 : w2.cell? ⟨w.heap.size + 1 + 1 + 1 + 1 + 1, 0, none⟩ = some (.int .i64 nx) := by rw [cell_of_row _ _ _ _ _ _ F2.out.b5]; rfl
         have p51 : w2.cell? ⟨w.heap.size + 1 + 1 + 1 + 1 + 1, 1, none⟩ = some (.slice ao5 k5 cap5) := by rw [cell_of_row _ _ _ _ _ _ F2.out.b5]; rfl
         have p60 : w2.cell? ⟨w.heap.size + 1 + 1 + 1 + 1 + 1 + 1, 0, none⟩ = some (.int .i64 0) := by rw [cell_of_row _ _ _ _ _ _ F2.out.b6]; rfl
         have p61 : w2.cell? ⟨w.heap.size + 1 + 1 + 1 + 1 + 1 + 1, 1, none⟩ = some (.slice none 0 0) := by rw [cell_of_row _ _ _ _ _ _ F2.out.b6]; rfl)
      | fail)
    refine (expR_call (w0 := w2) HQ.out (Sl.kn HS.out F2.out.g) (World.grownBy.refl _ _) hn).mono ?_
    rintro e w3 ⟨ao6, k6, cap6, rfl, M3⟩
    have F3 := hid (F2.out.call M3.out.2)
    clear p00 p01 p10 p11 p20 p21 p22 p23 p24 p25 p30 p31 p40 p41 p50 p51 p60 p61 q30 q31 q40 q41
    have p00 : w3.cell? ⟨w.heap.size, 0, none⟩ = some (.int .i64 next) := by rw [cell_of_row _ _ _ _ _ _ F3.out.b0]; rfl
    have p01 : w3.cell? ⟨w.heap.size, 1, none⟩ = some (.slice ao l.length cap) := by rw [cell_of_row _ _ _ _ _ _ F3.out.b0]; rfl
    have p10 : w3.cell? ⟨w.heap.size + 1, 0, none⟩ = some (.int .i64 next) := by rw [cell_of_row _ _ _ _ _ _ F3.out.b1]; rfl
    have p11 : w3.cell? ⟨w.heap.size + 1, 1, none⟩ = some (.slice ao2 l.length cap2) := by rw [cell_of_row _ _ _ _ _ _ F3.out.b1]; rfl
    have p20 : w3.cell? ⟨w.heap.size + 1 + 1, 0, none⟩ = some (.int .i64 kd) := by rw [cell_of_row _ _ _ _ _ _ F3.out.b2]; rfl
    have p21 : w3.cell? ⟨w.heap.size + 1 + 1, 1, none⟩ = some (.int .i64 n) := by rw [cell_of_row _ _ _ _ _ _ F3.out.b2]; rfl
    have p22 : w3.cell? ⟨w.heap.size + 1 + 1, 2, none⟩ = some (.int .i64 ho) := by rw [cell_of_row _ _ _ _ _ _ F3.out.b2]; rfl
    have p23 : w3.cell? ⟨w.heap.size + 1 + 1, 3, none⟩ = some (.int .i64 tk) := by rw [cell_of_row _ _ _ _ _ _ F3.out.b2]; rfl
    have p24 : w3.cell? ⟨w.heap.size + 1 + 1, 4, none⟩ = some (.int .i64 now) := by rw [cell_of_row _ _ _ _ _ _ F3.out.b2]; rfl
    have p25 : w3.cell? ⟨w.heap.size + 1 + 1, 5, none⟩ = some (.int .i64 d) := by rw [cell_of_row _ _ _ _ _ _ F3.out.b2]; rfl
    have p30 : w3.cell? ⟨w.heap.size + 1 + 1 + 1, 0, none⟩ = some (.int .i64 0) := by rw [cell_of_row _ _ _ _ _ _ F3.out.b3]; rfl
    have q30 : w3.frozen? ⟨w.heap.size + 1 + 1 + 1, 0, none⟩ = false := frozen_of_row _ _ _ _ _ F3.out.b3
    have p31 : w3.cell? ⟨w.heap.size + 1 + 1 + 1, 1, none⟩ = some (.slice none 0 0) := by rw [cell_of_row _ _ _ _ _ _ F3.out.b3]; rfl
    have q31 : w3.frozen? ⟨w.heap.size + 1 + 1 + 1, 1, none⟩ = false := frozen_of_row _ _ _ _ _ F3.out.b3
    have p40 : w3.cell? ⟨w.heap.size + 1 + 1 + 1 + 1, 0, none⟩ = some (.int .i64 0) := by rw [cell_of_row _ _ _ _ _ _ F3.out.b4]; rfl
    have q40 : w3.frozen? ⟨w.heap.size + 1 + 1 + 1 + 1, 0, none⟩ = false := frozen_of_row _ _ _ _ _ F3.out.b4
    have p41 : w3.cell? ⟨w.heap.size + 1 + 1 + 1 + 1, 1, none⟩ = some (.slice none 0 0) := by rw [cell_of_row _ _ _ _ _ _ F3.out.b4]; rfl
    have q41 : w3.frozen? ⟨w.heap.size + 1 + 1 + 1 + 1, 1, none⟩ = false := frozen_of_row _ _ _ _ _ F3.out.b4
    have p50 : w3.cell? ⟨w.heap.size + 1 + 1 + 1 + 1 + 1, 0, none⟩ = some (.int .i64 nx) := by rw [cell_of_row _ _ _ _ _ _ F3.out.b5]; rfl
    have p51 : w3.cell? ⟨w.heap.size + 1 + 1 + 1 + 1 + 1, 1, none⟩ = some (.slice ao5 k5 cap5) := by rw [cell_of_row _ _ _ _ _ _ F3.out.b5]; rfl
    have p60 : w3.cell? ⟨w.heap.size + 1 + 1 + 1 + 1 + 1 + 1, 0, none⟩ = some (.int .i64 0) := by rw [cell_of_row _ _ _ _ _ _ F3.out.b6]; rfl
    have p61 : w3.cell? ⟨w.heap.size + 1 + 1 + 1 + 1 + 1 + 1, 1, none⟩ = some (.slice none 0 0) := by rw [cell_of_row _ _ _ _ _ _ F3.out.b6]; rfl
    go_wp2_with (first
      | (refine wpList_storeTYg rfl 24 (.tmp 10) (.tmp 118) rfl rfl rfl (tyT _ _ _ _) F3.out.b6 rfl ?_; intro w4 g4 h4; have F4 := hid (F3.out.s6 (Y' := [.int .i64 nx, .slice ao6 k6 cap6]) g4 h4); have R4 := hid (And.intro (rd_kept (A := [.int .i64 0, .slice none 0 0]) (Sl.kn R2.out M3.out.2) F3.out.b6 (by simp) g4) (rd_kept (A := [.int .i64 0, .slice none 0 0]) M3.out.1 F3.out.b6 (by simp) g4)); clear g4 h4
         clear p00 p01 p10 p11 p20 p21 p22 p23 p24 p25 p30 p31 p40 p41 p50 p51 p60 p61 q30 q31 q40 q41
         have p00 : w4.cell? ⟨w.heap.size, 0, none⟩ = some (.int .i64 next) := by rw [cell_of_row _ _ _ _ _ _ F4.out.b0]; rfl
         have p01 : w4.cell? ⟨w.heap.size, 1, none⟩ = some (.slice ao l.length cap) := by rw [cell_of_row _ _ _ _ _ _ F4.out.b0]; rfl
         have p10 : w4.cell? ⟨w.heap.size + 1, 0, none⟩ = some (.int .i64 next) := by rw [cell_of_row _ _ _ _ _ _ F4.out.b1]; rfl
         have p11 : w4.cell? ⟨w.heap.size + 1, 1, none⟩ = some (.slice ao2 l.length cap2) := by rw [cell_of_row _ _ _ _ _ _ F4.out.b1]; rfl
         have p20 : w4.cell? ⟨w.heap.size + 1 + 1, 0, none⟩ = some (.int .i64 kd) := by rw [cell_of_row _ _ _ _ _ _ F4.out.b2]; rfl
         have p21 : w4.cell? ⟨w.heap.size + 1 + 1, 1, none⟩ = some (.int .i64 n) := by rw [cell_of_row _ _ _ _ _ _ F4.out.b2]; rfl
         have p22 : w4.cell? ⟨w.heap.size + 1 + 1, 2, none⟩ = some (.int .i64 ho) := by rw [cell_of_row _ _ _ _ _ _ F4.out.b2]; rfl
         have p23 : w4.cell? ⟨w.heap.size + 1 + 1, 3, none⟩ = some (.int .i64 tk) := by rw [cell_of_row _ _ _ _ _ _ F4.out.b2]; rfl
         have p24 : w4.cell? ⟨w.heap.size + 1 + 1, 4, none⟩ = some (.int .i64 now) := by rw [cell_of_row _ _ _ _ _ _ F4.out.b2]; rfl
         have p25 : w4.cell? ⟨w.heap.size + 1 + 1, 5, none⟩ = some (.int .i64 d) := by rw [cell_of_row _ _ _ _ _ _ F4.out.b2]; rfl
         have p30 : w4.cell? ⟨w.heap.size + 1 + 1 + 1, 0, none⟩ = some (.int .i64 0) := by rw [cell_of_row _ _ _ _ _ _ F4.out.b3]; rfl
         have q30 : w4.frozen? ⟨w.heap.size + 1 + 1 + 1, 0, none⟩ = false := frozen_of_row _ _ _ _ _ F4.out.b3
         have p31 : w4.cell? ⟨w.heap.size + 1 + 1 + 1, 1, none⟩ = some (.slice none 0 0) := by rw [cell_of_row _ _ _ _ _ _ F4.out.b3]; rfl
         have q31 : w4.frozen? ⟨w.heap.size + 1 + 1 + 1, 1, none⟩ = false := frozen_of_row _ _ _ _ _ F4.out.b3
         have p40 : w4.cell? ⟨w.heap.size + 1 + 1 + 1 + 1, 0, none⟩ = some (.int .i64 0) := by rw [cell_of_row _ _ _ _ _ _ F4.out.b4]; rfl
         have q40 : w4.frozen? ⟨w.heap.size + 1 + 1 + 1 + 1, 0, none⟩ = false := frozen_of_row _ _ _ _ _ F4.out.b4
         have p41 : w4.cell? ⟨w.heap.size + 1 + 1 + 1 + 1, 1, none⟩ = some (.slice none 0 0) := by rw [cell_of_row _ _ _ _ _ _ F4.out.b4]; rfl
         have q41 : w4.frozen? ⟨w.heap.size + 1 + 1 + 1 + 1, 1, none⟩ = false := frozen_of_row _ _ _ _ _ F4.out.b4
         have p50 : w4.cell? ⟨w.heap.size + 1 + 1 + 1 + 1 + 1, 0, none⟩ = some (.int .i64 nx) := by rw [cell_of_row _ _ _ _ _ _ F4.out.b5]; rfl
         have p51 : w4.cell? ⟨w.heap.size + 1 + 1 + 1 + 1 + 1, 1, none⟩ = some (.slice ao5 k5 cap5) := by rw [cell_of_row _ _ _ _ _ _ F4.out.b5]; rfl
         have p60 : w4.cell? ⟨w.heap.size + 1 + 1 + 1 + 1 + 1 + 1, 0, none⟩ = some (.int .i64 nx) := by rw [cell_of_row _ _ _ _ _ _ F4.out.b6]; rfl
         have p61 : w4.cell? ⟨w.heap.size + 1 + 1 + 1 + 1 + 1 + 1, 1, none⟩ = some (.slice ao6 k6 cap6) := by rw [cell_of_row _ _ _ _ _ _ F4.out.b6]; rfl)
      | fail)
    refine (sam_call (t := ⟨nx, L⟩) (w0 := w4) R4.out.1 R4.out.2 (World.grownBy.refl _ _) (Nat.le_trans hL (by decide))).mono ?_
    rintro e w5 ⟨rfl, g5⟩
    have F5 := hid (F4.out.call g5)
    have R5 := hid (And.intro (Sl.kn R4.out.1 g5) (Sl.kn R4.out.2 g5))
    clear g5
    clear p00 p01 p10 p11 p20 p21 p22 p23 p24 p25 p30 p31 p40 p41 p50 p51 p60 p61 q30 q31 q40 q41
    have p00 : w5.cell? ⟨w.heap.size, 0, none⟩ = some (.int .i64 next) := by rw [cell_of_row _ _ _ _ _ _ F5.out.b0]; rfl
    have p01 : w5.cell? ⟨w.heap.size, 1, none⟩ = some (.slice ao l.length cap) := by rw [cell_of_row _ _ _ _ _ _ F5.out.b0]; rfl
    have p10 : w5.cell? ⟨w.heap.size + 1, 0, none⟩ = some (.int .i64 next) := by rw [cell_of_row _ _ _ _ _ _ F5.out.b1]; rfl
    have p11 : w5.cell? ⟨w.heap.size + 1, 1, none⟩ = some (.slice ao2 l.length cap2) := by rw [cell_of_row _ _ _ _ _ _ F5.out.b1]; rfl
    have p20 : w5.cell? ⟨w.heap.size + 1 + 1, 0, none⟩ = some (.int .i64 kd) := by rw [cell_of_row _ _ _ _ _ _ F5.out.b2]; rfl
    have p21 : w5.cell? ⟨w.heap.size + 1 + 1, 1, none⟩ = some (.int .i64 n) := by rw [cell_of_row _ _ _ _ _ _ F5.out.b2]; rfl
    have p22 : w5.cell? ⟨w.heap.size + 1 + 1, 2, none⟩ = some (.int .i64 ho) := by rw [cell_of_row _ _ _ _ _ _ F5.out.b2]; rfl
    have p23 : w5.cell? ⟨w.heap.size + 1 + 1, 3, none⟩ = some (.int .i64 tk) := by rw [cell_of_row _ _ _ _ _ _ F5.out.b2]; rfl
    have p24 : w5.cell? ⟨w.heap.size + 1 + 1, 4, none⟩ = some (.int .i64 now) := by rw [cell_of_row _ _ _ _ _ _ F5.out.b2]; rfl
    have p25 : w5.cell? ⟨w.heap.size + 1 + 1, 5, none⟩ = some (.int .i64 d) := by rw [cell_of_row _ _ _ _ _ _ F5.out.b2]; rfl
    have p30 : w5.cell? ⟨w.heap.size + 1 + 1 + 1, 0, none⟩ = some (.int .i64 0) := by rw [cell_of_row _ _ _ _ _ _ F5.out.b3]; rfl
    have q30 : w5.frozen? ⟨w.heap.size + 1 + 1 + 1, 0, none⟩ = false := frozen_of_row _ _ _ _ _ F5.out.b3
    have p31 : w5.cell? ⟨w.heap.size + 1 + 1 + 1, 1, none⟩ = some (.slice none 0 0) := by rw [cell_of_row _ _ _ _ _ _ F5.out.b3]; rfl
    have q31 : w5.frozen? ⟨w.heap.size + 1 + 1 + 1, 1, none⟩ = false := frozen_of_row _ _ _ _ _ F5.out.b3
    have p40 : w5.cell? ⟨w.heap.size + 1 + 1 + 1 + 1, 0, none⟩ = some (.int .i64 0) := by rw [cell_of_row _ _ _ _ _ _ F5.out.b4]; rfl
    have q40 : w5.frozen? ⟨w.heap.size + 1 + 1 + 1 + 1, 0, none⟩ = false := frozen_of_row _ _ _ _ _ F5.out.b4
    have p41 : w5.cell? ⟨w.heap.size + 1 + 1 + 1 + 1, 1, none⟩ = some (.slice none 0 0) := by rw [cell_of_row _ _ _ _ _ _ F5.out.b4]; rfl
    have q41 : w5.frozen? ⟨w.heap.size + 1 + 1 + 1 + 1, 1, none⟩ = false := frozen_of_row _ _ _ _ _ F5.out.b4
    have p50 : w5.cell? ⟨w.heap.size + 1 + 1 + 1 + 1 + 1, 0, none⟩ = some (.int .i64 nx) := by rw [cell_of_row _ _ _ _ _ _ F5.out.b5]; rfl
    have p51 : w5.cell? ⟨w.heap.size + 1 + 1 + 1 + 1 + 1, 1, none⟩ = some (.slice ao5 k5 cap5) := by rw [cell_of_row _ _ _ _ _ _ F5.out.b5]; rfl
    have p60 : w5.cell? ⟨w.heap.size + 1 + 1 + 1 + 1 + 1 + 1, 0, none⟩ = some (.int .i64 nx) := by rw [cell_of_row _ _ _ _ _ _ F5.out.b6]; rfl
    have p61 : w5.cell? ⟨w.heap.size + 1 + 1 + 1 + 1 + 1 + 1, 1, none⟩ = some (.slice ao6 k6 cap6) := by rw [cell_of_row _ _ _ _ _ _ F5.out.b6]; rfl
    have HF := hid (HE.out.trans (if_pos trivial))
    go_wp2
    go_region
    all_goals go_wp2
    all_goals rw [HF.out]
    all_goals exact fin_step _ F5.out (r := ⟨nx, L⟩) R5.out.1 R5.out.2 rfl rfl rfl rfl rfl
  have := and3 kd
  omega
end Go.Proofs.Ytafippjpaakonaa
