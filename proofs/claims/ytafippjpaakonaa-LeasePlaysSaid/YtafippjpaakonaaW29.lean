/- Leases: made. (printed by gen_w29.py) -/
import Derived.Test.YtafippjpaakonaaW28
namespace Go.Proofs.Ytafippjpaakonaa
open Go.RowKit
set_option linter.unusedSimpArgs false
set_option linter.unusedVariables false

def Ac.zero : Ac := ⟨0, 0, 0, 0, 0, 0⟩
/-- s reads as these acts -/
def RdA (w : World) (s : Value) (l : List Ac) : Prop := Sl w 6 s l.length (l.flatMap acells)
theorem acells_len (l : List Ac) : (l.flatMap acells).length = l.length * 6 := by
  induction l with
  | nil => rfl
  | cons x l ih => simp only [List.flatMap_cons, List.length_append, ih, List.length_cons]; simp [acells]; omega
theorem aflat_at (l : List Ac) (i j : Nat) (hi : i < l.length) (hj : j < 6) : (l.flatMap acells)[i * 6 + j]? = (acells (l.getD i Ac.zero))[j]? := by
  induction l generalizing i with
  | nil => simp at hi
  | cons x l ih =>
    cases i with
    | zero =>
      simp only [List.flatMap_cons, Nat.zero_mul, Nat.zero_add, List.getD_cons_zero]
      exact List.getElem?_append_left (by simpa [acells] using hj)
    | succ i =>
      have h4 : (acells x).length = 6 := rfl
      simp only [List.flatMap_cons, List.getD_cons_succ]
      rw [List.getElem?_append_right (by omega), ← ih i (by simpa using hi)]
      congr 1
      omega
theorem RdA.six {w : World} {ao : Option Addr} {cap n : Nat} {l : List Ac} (h : RdA w (.slice ao n cap) l) (i : Nat) (hi : i < l.length) :
    ∃ b off, ao = some ⟨b, off, none⟩ ∧ n = l.length ∧ w.rangeAt b (off + i * 6) (acells (l.getD i Ac.zero)) := by
  have hl := acells_len l
  obtain ⟨b, off, rfl, hc⟩ := Sl.at h (i * 6) (by omega)
  obtain ⟨_, ao', cap', hv, h1, _⟩ := h
  simp only [Value.slice.injEq] at hv
  obtain ⟨_, rfl, rfl⟩ := hv
  refine ⟨b, off, rfl, rfl, fun j v hj => ?_⟩
  have hj4 : j < 6 := (List.getElem?_eq_some_iff.1 hj).1
  have hij : i * 6 + j < (l.flatMap acells).length := by omega
  rw [Nat.add_assoc, hc (i * 6 + j) hij, ← hj, ← aflat_at l i j hi hj4, List.getElem?_eq_getElem hij]
/-- the table behind these acts -/
def mk (l : List Ac) : Tb := (l.take 30).foldl stp ⟨1, []⟩
theorem res_len (t : Tb) (a : Ac) : (a.res t).1.ls.length ≤ 65 := by
  unfold Ac.res
  by_cases h0 : a.op = 0
  · rw [if_pos h0]; exact acq_len _ _ _ _ _
  · rw [if_neg h0]
    by_cases h1 : a.op = 1
    · rw [if_pos h1]; exact ren_len _ _ _ _ _ _
    · rw [if_neg h1]
      by_cases h2 : a.op = 2
      · rw [if_pos h2]; exact rel_len _ _ _ _
      · rw [if_neg h2]
        by_cases h3 : a.op = 3
        · rw [if_pos h3]; exact expd_len _ _
        · rw [if_neg h3]; simp [Tb.zero]
theorem stp_len (t : Tb) (a : Ac) (h : t.ls.length ≤ 65) : (stp t a).ls.length ≤ 65 := by
  unfold stp
  by_cases h0 : (a.res t).2 = 0
  · rw [if_pos h0]; exact res_len t a
  · rw [if_neg h0]; exact h
theorem fold_len (l : List Ac) : ∀ t : Tb, t.ls.length ≤ 65 → (l.foldl stp t).ls.length ≤ 65 := by
  induction l with
  | nil => exact fun t h => h
  | cons a l ih => exact fun t h => ih _ (stp_len t a h)
theorem take_snocA {l : List Ac} {k : Nat} (hk : k < l.length) : l.take (k + 1) = l.take k ++ [l.getD k Ac.zero] := by
  rw [List.getD_eq_getElem?_getD, List.getElem?_eq_getElem hk, List.take_succ_eq_append_getElem hk]; rfl
theorem fold_snoc {l : List Ac} {k : Nat} (hk : k < l.length) (t : Tb) : (l.take (k + 1)).foldl stp t = stp ((l.take k).foldl stp t) (l.getD k Ac.zero) := by
  rw [take_snocA hk, List.foldl_append]; rfl
/-- what made holds -/
structure MF (w wr : World) (B : Nat) (t : Tb) (s : Value) : Prop where
  g : w.grownBy wr none
  bo : wr.heap[w.heap.size]? = some (.cells #[.int .i64 0, .slice none 0 0] 24 (0, 0))
  bt : wr.heap[B]? = some (.cells #[.int .i64 t.next, s] 24 (0, 0))
  rd : Rd wr s t.ls
/-- what its round holds -/
structure MR (w wr w' : World) (B : Nat) (t : Tb) (s : Value) (a : Ac) (X : List Value) : Prop where
  g : w.grownBy w' none
  bo : w'.heap[w.heap.size]? = some (.cells #[.int .i64 0, .slice none 0 0] 24 (0, 0))
  bt : w'.heap[B]? = some (.cells #[.int .i64 t.next, s] 24 (0, 0))
  ba : w'.heap[wr.heap.size]? = some (.cells (acells a).toArray 35 (0, 0))
  bx : w'.heap[wr.heap.size + 1]? = some (.cells X.toArray 24 (0, 0))
  rd : Rd w' s t.ls
section
variable {w wr w' w'' : World} {B : Nat} {t : Tb} {s : Value} {a : Ac} {X : List Value}
theorem MF.lt (h : MF w wr B t s) : B < wr.heap.size := (Array.getElem?_eq_some_iff.1 h.bt).1
theorem MF.round (h : MF w wr B t s) (a : Ac) (X : List Value) : MR w wr ((wr.alloc (.cells (acells a).toArray 35)).alloc (.cells X.toArray 24)) B t s a X :=
  have g := grown_trans (World.grownBy_alloc wr (.cells (acells a).toArray 35) none) (World.grownBy_alloc _ (.cells X.toArray 24) none)
  ⟨grown_trans h.g g, row_of g h.bo (by simp), row_of g h.bt (by simp), by rw [heap_past (by simp), heap_at rfl], by rw [heap_at (by simp)], Sl.kn h.rd g⟩
theorem MR.call (h : MR w wr w' B t s a X) (g : w'.grownBy w'' none) : MR w wr w'' B t s a X :=
  ⟨grown_trans h.g g, row_of g h.bo (by simp), row_of g h.bt (by simp), row_of g h.ba (by simp), row_of g h.bx (by simp), Sl.kn h.rd g⟩
theorem MR.sx {a0 a1 : Value} {Y : List Value} (h : MR w wr w' B t s a [a0, a1]) (g : w'.grownBy w'' (some (wr.heap.size + 1))) (hb : w''.heap[wr.heap.size + 1]? = some (.cells Y.toArray 24 (0, 0))) (hB : B < wr.heap.size) (hw : w.heap.size < wr.heap.size) : MR w wr w'' B t s a Y :=
  ⟨grown_newR h.g g (by omega), row_of g h.bo (by simp <;> omega), row_of g h.bt (by simp <;> omega), row_of g h.ba (by simp), hb, rd_kept h.rd h.bx (by simp) g⟩
/-- the round's end, the table as it was -/
theorem MR.keep (h : MR w wr w' B t s a X) : MF w w' B t s := ⟨h.g, h.bo, h.bt, h.rd⟩
/-- the round's end, the new table stored -/
theorem MR.take {r : Tb} {ao : Option Addr} {n cap : Nat} (h : MR w wr w' B t s a X) (hr : Rd w' (.slice ao n cap) r.ls) (hB : w.heap.size < B) : MF w ((w'.setCell ⟨B, 0, none⟩ (.int .i64 r.next)).setCell ⟨B, 1, none⟩ (.slice ao n cap)) B r (.slice ao n cap) := by
  have g1 := grown_setCell w' ⟨B, 0, none⟩ (.int .i64 r.next)
  have x1 := heap_setCell_same w' B 0 _ 24 (.int .i64 r.next) h.bt
  have g2 := grown_setCell (w'.setCell ⟨B, 0, none⟩ (.int .i64 r.next)) ⟨B, 1, none⟩ (.slice ao n cap)
  have x2 := heap_setCell_same _ B 1 _ 24 (.slice ao n cap) x1
  have k := grown_trans g1 g2
  exact ⟨grown_newR h.g k (show w.heap.size ≤ B by omega), row_of k h.bo (by simp; omega), by simpa using x2, rd_kept (A := [.int .i64 t.next, s]) hr h.bt (by simp) k⟩
end
theorem MF.fin {w wr : World} {B : Nat} {t : Tb} {ao : Option Addr} {n cap : Nat} (h : MF w wr B t (.slice ao n cap)) {fn : Func} {c : Act}
    (hf : fn.results = #[.cell 2 24]) (ha : c.tmps.getD 2 undef = ptr w.heap.size) (hd : c.defers = []) :
    bodyPost Try.prog fn (fun e w' => ∃ u, e = .returned (.agg #[.int .i64 t.next, u]) ∧ Rd w' u t.ls ∧ w.grownBy w' none) .ret c ((wr.setCell ⟨w.heap.size, 0, none⟩ (.int .i64 t.next)).setCell ⟨w.heap.size, 1, none⟩ (.slice ao n cap)) := by
  have g1 := grown_setCell wr ⟨w.heap.size, 0, none⟩ (.int .i64 t.next)
  have x1 := heap_setCell_same wr w.heap.size 0 _ 24 (.int .i64 t.next) h.bo
  have g2 := grown_setCell (wr.setCell ⟨w.heap.size, 0, none⟩ (.int .i64 t.next)) ⟨w.heap.size, 1, none⟩ (.slice ao n cap)
  have x2 := heap_setCell_same _ w.heap.size 1 _ 24 (.slice ao n cap) x1
  have k := grown_trans g1 g2
  exact ret_cell (b := w.heap.size) hf ha (tyT t.next ao n cap) (by simpa using x2) hd ⟨_, rfl, rd_kept (A := [.int .i64 0, .slice none 0 0]) h.rd h.bo (by simp) k, grown_newR h.g k (Nat.le_refl _)⟩
set_option maxRecDepth 100000 in
set_option maxHeartbeats 4000000 in
theorem made_walk (l : List Ac) (s : Value) (w : World) (hA : RdA w s l) :
    Calls Try.prog 14 #[s] w fun e w' => ∃ u, e = .returned (.agg #[.int .i64 (mk l).next, u]) ∧ Rd w' u (mk l).ls ∧ w.grownBy w' none := by
  obtain ⟨ao, cap, rfl, hc1, hc2⟩ := Sl.shape hA
  have HA := hid hA
  clear hA
  obtain ⟨r, hr⟩ : ∃ r, r = mk l := ⟨_, rfl⟩
  rw [← hr]
  have HRR := hid hr
  clear hr
  have hb0 := heap_at (w := w) (o := .cells #[.int .i64 0, .slice none 0 0] 24) rfl
  have ga := World.grownBy_alloc w (.cells #[.int .i64 0, .slice none 0 0] 24) none
  have GA := hid (And.intro ga hb0)
  have hsz : (w.alloc (.cells #[.int .i64 0, .slice none 0 0] 24)).heap.size = w.heap.size + 1 := by simp
  have HSZ := hid hsz
  clear ga hb0 hsz
  go_enter Try.func14, Try.ntmps14
  go_wp2_with fail
  refine (rnew_walk _).mono ?_
  rintro e w1 ⟨he, g1⟩
  unfold tval nilS at he
  subst he
  have G1 := hid g1
  clear g1
  obtain ⟨B, hB⟩ : ∃ B, B = w1.heap.size := ⟨_, rfl⟩
  have hBw : w.heap.size < B := by rw [hB]; exact Nat.lt_of_lt_of_le (by rw [HSZ.out]; omega) G1.out.size
  obtain ⟨W, hW⟩ : ∃ W, W = w1.alloc (.cells #[.int .i64 1, .slice none 0 0] 24) := ⟨_, rfl⟩
  have F0 := hid (show MF w W B ⟨1, []⟩ (.slice none 0 0) from by
    rw [hW, hB]
    have g2 := World.grownBy_alloc w1 (.cells #[.int .i64 1, .slice none 0 0] 24) none
    exact ⟨grown_trans GA.out.1 (grown_trans G1.out g2), row_of (grown_trans G1.out g2) GA.out.2 (by simp), heap_at rfl, Sl.nil _ _⟩)
  have HWW := hid (And.intro hW hB)
  clear hW hB
  go_wp2_with fail
  rw [← HWW.out.1, ← HWW.out.2]
  go_loopw [4] (fun i wr => ∃ (k : Nat) (t : Tb) (at' : Option Addr) (m ct : Nat), k ≤ l.length ∧ k ≤ 30 ∧ i = .int .i64 k ∧ Hid (t = (l.take k).foldl stp ⟨1, []⟩ ∧ t.ls.length ≤ 65) ∧ MF w wr B t (.slice at' m ct)) (fun i _ => l.length - (intOf i).toNat)
  case atStart => exact ⟨0, ⟨1, []⟩, none, 0, 0, by omega, by omega, rfl, hid ⟨rfl, by decide⟩, F0.out⟩
  case round =>
    obtain ⟨k, t, at', m, ct, hk, hk30, rfl, HT, hf⟩ := hrel
    have FK := hid hf
    clear hf
    have hBl := FK.out.lt
    have p0 : wr.cell? ⟨B, 0, none⟩ = some (.int .i64 t.next) := by rw [cell_of_row _ _ _ _ _ _ FK.out.bt]; rfl
    have p1 : wr.cell? ⟨B, 1, none⟩ = some (.slice at' m ct) := by rw [cell_of_row _ _ _ _ _ _ FK.out.bt]; rfl
    have o0 : wr.cell? ⟨w.heap.size, 0, none⟩ = some (.int .i64 0) := by rw [cell_of_row _ _ _ _ _ _ FK.out.bo]; rfl
    have o1 : wr.cell? ⟨w.heap.size, 1, none⟩ = some (.slice none 0 0) := by rw [cell_of_row _ _ _ _ _ _ FK.out.bo]; rfl
    have f0 : wr.frozen? ⟨w.heap.size, 0, none⟩ = false := frozen_of_row _ _ _ _ _ FK.out.bo
    have f1 : wr.frozen? ⟨w.heap.size, 1, none⟩ = false := frozen_of_row _ _ _ _ _ FK.out.bo
    have i1 : (0 : Int) ≤ (k : Int) := by omega
    by_cases hlt : k < l.length
    · have t1 : decide ((k : Int) < (l.length : Int)) = true := by simpa using hlt
      by_cases h30 : k < 30
      · have t2 : decide ((k : Int) < 30) = true := by simp; omega
        clear o0 o1 f0 f1
        obtain ⟨b, off, rfl, hl0, hd⟩ := RdA.six (Sl.kn HA.out FK.out.g) k hlt
        clear hl0
        have HS := hid (fold_snoc hlt (⟨1, []⟩ : Tb))
        rw [← HT.out.1] at HS
        have i2 : (k : Int) < (l.length : Int) := by omega
        generalize l.getD k Ac.zero = a at *
        obtain ⟨kd, n, ho, tk, now, d⟩ := a
        have d0 : wr.cell? ⟨b, off + k * 6, none⟩ = some (.int .i64 kd) := by simpa using hd 0 _ rfl
        have d1 : wr.cell? ⟨b, off + k * 6 + 1, none⟩ = some (.int .i64 n) := hd 1 _ rfl
        have d2 : wr.cell? ⟨b, off + k * 6 + 2, none⟩ = some (.int .i64 ho) := hd 2 _ rfl
        have d3 : wr.cell? ⟨b, off + k * 6 + 3, none⟩ = some (.int .i64 tk) := hd 3 _ rfl
        have d4 : wr.cell? ⟨b, off + k * 6 + 4, none⟩ = some (.int .i64 now) := hd 4 _ rfl
        have d5 : wr.cell? ⟨b, off + k * 6 + 5, none⟩ = some (.int .i64 d) := hd 5 _ rfl
        clear hd
        obtain ⟨next, ls⟩ := t
        simp only at p0
        obtain ⟨W2, hW2⟩ : ∃ W2, W2 = ((wr.alloc (.cells #[.int .i64 kd, .int .i64 n, .int .i64 ho, .int .i64 tk, .int .i64 now, .int .i64 d] 35)).alloc (.cells #[.int .i64 next, .slice at' m ct] 24)) := ⟨_, rfl⟩
        have F2 := hid (show MR w wr W2 B ⟨next, ls⟩ (.slice at' m ct) ⟨kd, n, ho, tk, now, d⟩ [.int .i64 next, .slice at' m ct] from by rw [hW2]; exact FK.out.round ⟨kd, n, ho, tk, now, d⟩ [.int .i64 next, .slice at' m ct])
        have HW2 := hid hW2
        have z0 := hid (show B < wr.heap.size from hBl)
        clear hW2 hBl
        have y0 := block_lt_of_cell p0
        have y1 := block_lt_of_cell d0
        have hls : ls.length ≤ 1000000 := Nat.le_trans HT.out.2 (by decide)
        by_cases h0 : bits .and .i64 kd 3 = 0
        · have H0 := hid h0
          have u0 : (bits .and .i64 kd 3 == 0) = true := by rw [h0]; rfl
          obtain ⟨⟨⟨nx, L⟩, tok, er⟩, hq⟩ : ∃ q, acq cds ⟨next, ls⟩ n ho now d = q := ⟨_, rfl⟩
          have HQ := hid hq
          have hL : L.length ≤ 65 := by have h := acq_len ⟨next, ls⟩ n ho now d; rw [hq] at h; exact h
          have HE := hid (show (l.take (k + 1)).foldl stp ⟨1, []⟩ = if (er : Int) = 0 then ⟨nx, L⟩ else ⟨next, ls⟩ from by rw [HS.out]; unfold stp Ac.res Ac.op; simp only [h0, hq]; rfl)
          clear hq h0
          go_wp2_with fail
          rw [← HW2.out]
          refine (acqR_call (w0 := W2) HQ.out F2.out.rd (World.grownBy.refl _ _) hls).mono ?_
          rintro e w3 ⟨ao5, k5, cap5, rfl, M3⟩
          have F3 := hid (F2.out.call M3.out.2)
          have pT0 : w3.cell? ⟨B, 0, none⟩ = some (.int .i64 next) := by rw [cell_of_row _ _ _ _ _ _ F3.out.bt]; rfl
          have qT0 : w3.frozen? ⟨B, 0, none⟩ = false := frozen_of_row _ _ _ _ _ F3.out.bt
          have pT1 : w3.cell? ⟨B, 1, none⟩ = some (.slice at' m ct) := by rw [cell_of_row _ _ _ _ _ _ F3.out.bt]; rfl
          have qT1 : w3.frozen? ⟨B, 1, none⟩ = false := frozen_of_row _ _ _ _ _ F3.out.bt
          have pA0 : w3.cell? ⟨wr.heap.size, 0, none⟩ = some (.int .i64 kd) := by rw [cell_of_row _ _ _ _ _ _ F3.out.ba]; rfl
          have pA1 : w3.cell? ⟨wr.heap.size, 1, none⟩ = some (.int .i64 n) := by rw [cell_of_row _ _ _ _ _ _ F3.out.ba]; rfl
          have pA2 : w3.cell? ⟨wr.heap.size, 2, none⟩ = some (.int .i64 ho) := by rw [cell_of_row _ _ _ _ _ _ F3.out.ba]; rfl
          have pA3 : w3.cell? ⟨wr.heap.size, 3, none⟩ = some (.int .i64 tk) := by rw [cell_of_row _ _ _ _ _ _ F3.out.ba]; rfl
          have pA4 : w3.cell? ⟨wr.heap.size, 4, none⟩ = some (.int .i64 now) := by rw [cell_of_row _ _ _ _ _ _ F3.out.ba]; rfl
          have pA5 : w3.cell? ⟨wr.heap.size, 5, none⟩ = some (.int .i64 d) := by rw [cell_of_row _ _ _ _ _ _ F3.out.ba]; rfl
          have pX0 : w3.cell? ⟨wr.heap.size + 1, 0, none⟩ = some (.int .i64 next) := by rw [cell_of_row _ _ _ _ _ _ F3.out.bx]; rfl
          have qX0 : w3.frozen? ⟨wr.heap.size + 1, 0, none⟩ = false := frozen_of_row _ _ _ _ _ F3.out.bx
          have pX1 : w3.cell? ⟨wr.heap.size + 1, 1, none⟩ = some (.slice at' m ct) := by rw [cell_of_row _ _ _ _ _ _ F3.out.bx]; rfl
          have qX1 : w3.frozen? ⟨wr.heap.size + 1, 1, none⟩ = false := frozen_of_row _ _ _ _ _ F3.out.bx
          go_wp2_with (first
            | (refine wpList_storeTYg rfl 24 (.tmp 6) (.tmp 40) rfl rfl rfl (tyT _ _ _ _) F3.out.bx rfl ?_; intro w4 g4 h4; have F4 := hid (F3.out.sx (Y := [.int .i64 nx, .slice ao5 k5 cap5]) g4 h4 z0.out (Nat.lt_trans hBw z0.out)); have R4 := hid (rd_kept (A := [.int .i64 next, .slice at' m ct]) M3.out.1 F3.out.bx (by simp) g4); clear g4 h4
               clear pT0 pT1 pX0 pX1 qT0 qT1 qX0 qX1 pA0 pA1 pA2 pA3 pA4 pA5
               have pT0 : w4.cell? ⟨B, 0, none⟩ = some (.int .i64 next) := by rw [cell_of_row _ _ _ _ _ _ F4.out.bt]; rfl
               have qT0 : w4.frozen? ⟨B, 0, none⟩ = false := frozen_of_row _ _ _ _ _ F4.out.bt
               have pT1 : w4.cell? ⟨B, 1, none⟩ = some (.slice at' m ct) := by rw [cell_of_row _ _ _ _ _ _ F4.out.bt]; rfl
               have qT1 : w4.frozen? ⟨B, 1, none⟩ = false := frozen_of_row _ _ _ _ _ F4.out.bt
               have pA0 : w4.cell? ⟨wr.heap.size, 0, none⟩ = some (.int .i64 kd) := by rw [cell_of_row _ _ _ _ _ _ F4.out.ba]; rfl
               have pA1 : w4.cell? ⟨wr.heap.size, 1, none⟩ = some (.int .i64 n) := by rw [cell_of_row _ _ _ _ _ _ F4.out.ba]; rfl
               have pA2 : w4.cell? ⟨wr.heap.size, 2, none⟩ = some (.int .i64 ho) := by rw [cell_of_row _ _ _ _ _ _ F4.out.ba]; rfl
               have pA3 : w4.cell? ⟨wr.heap.size, 3, none⟩ = some (.int .i64 tk) := by rw [cell_of_row _ _ _ _ _ _ F4.out.ba]; rfl
               have pA4 : w4.cell? ⟨wr.heap.size, 4, none⟩ = some (.int .i64 now) := by rw [cell_of_row _ _ _ _ _ _ F4.out.ba]; rfl
               have pA5 : w4.cell? ⟨wr.heap.size, 5, none⟩ = some (.int .i64 d) := by rw [cell_of_row _ _ _ _ _ _ F4.out.ba]; rfl
               have pX0 : w4.cell? ⟨wr.heap.size + 1, 0, none⟩ = some (.int .i64 nx) := by rw [cell_of_row _ _ _ _ _ _ F4.out.bx]; rfl
               have qX0 : w4.frozen? ⟨wr.heap.size + 1, 0, none⟩ = false := frozen_of_row _ _ _ _ _ F4.out.bx
               have pX1 : w4.cell? ⟨wr.heap.size + 1, 1, none⟩ = some (.slice ao5 k5 cap5) := by rw [cell_of_row _ _ _ _ _ _ F4.out.bx]; rfl
               have qX1 : w4.frozen? ⟨wr.heap.size + 1, 1, none⟩ = false := frozen_of_row _ _ _ _ _ F4.out.bx)
            | fail)
          go_wp2
          · rename_i hb
            have he : er = 0 := by simpa using hb
            go_roundw
            case rel => exact ⟨k + 1, ⟨nx, L⟩, ao5, k5, cap5, by omega, by omega, by go_num, hid ⟨(HE.out.trans (if_pos he)).symm, hL⟩, F4.out.take (r := ⟨nx, L⟩) R4.out hBw⟩
            case measure => simp [intOf]; omega
          · rename_i hb
            have he : ¬ er = 0 := by simpa using hb
            go_roundw
            case rel => exact ⟨k + 1, ⟨next, ls⟩, at', m, ct, by omega, by omega, by go_num, hid ⟨(HE.out.trans (if_neg he)).symm, HT.out.2⟩, F4.out.keep⟩
            case measure => simp [intOf]; omega
        by_cases h1 : bits .and .i64 kd 3 = 1
        · have H1 := hid h1
          have u0 : (bits .and .i64 kd 3 == 0) = false := by rw [h1]; rfl
          have u1 : (bits .and .i64 kd 3 == 1) = true := by rw [h1]; rfl
          obtain ⟨⟨⟨nx, L⟩, er⟩, hq⟩ : ∃ q, ren cds ⟨next, ls⟩ n ho tk now d = q := ⟨_, rfl⟩
          have HQ := hid hq
          have hL : L.length ≤ 65 := by have h := ren_len ⟨next, ls⟩ n ho tk now d; rw [hq] at h; exact h
          have HE := hid (show (l.take (k + 1)).foldl stp ⟨1, []⟩ = if (er : Int) = 0 then ⟨nx, L⟩ else ⟨next, ls⟩ from by rw [HS.out]; unfold stp Ac.res Ac.op; simp only [h1, hq]; rfl)
          clear hq h1
          go_wp2_with fail
          rw [← HW2.out]
          refine (renR_call (w0 := W2) HQ.out F2.out.rd (World.grownBy.refl _ _) hls).mono ?_
          rintro e w3 ⟨ao5, k5, cap5, rfl, M3⟩
          have F3 := hid (F2.out.call M3.out.2)
          have pT0 : w3.cell? ⟨B, 0, none⟩ = some (.int .i64 next) := by rw [cell_of_row _ _ _ _ _ _ F3.out.bt]; rfl
          have qT0 : w3.frozen? ⟨B, 0, none⟩ = false := frozen_of_row _ _ _ _ _ F3.out.bt
          have pT1 : w3.cell? ⟨B, 1, none⟩ = some (.slice at' m ct) := by rw [cell_of_row _ _ _ _ _ _ F3.out.bt]; rfl
          have qT1 : w3.frozen? ⟨B, 1, none⟩ = false := frozen_of_row _ _ _ _ _ F3.out.bt
          have pA0 : w3.cell? ⟨wr.heap.size, 0, none⟩ = some (.int .i64 kd) := by rw [cell_of_row _ _ _ _ _ _ F3.out.ba]; rfl
          have pA1 : w3.cell? ⟨wr.heap.size, 1, none⟩ = some (.int .i64 n) := by rw [cell_of_row _ _ _ _ _ _ F3.out.ba]; rfl
          have pA2 : w3.cell? ⟨wr.heap.size, 2, none⟩ = some (.int .i64 ho) := by rw [cell_of_row _ _ _ _ _ _ F3.out.ba]; rfl
          have pA3 : w3.cell? ⟨wr.heap.size, 3, none⟩ = some (.int .i64 tk) := by rw [cell_of_row _ _ _ _ _ _ F3.out.ba]; rfl
          have pA4 : w3.cell? ⟨wr.heap.size, 4, none⟩ = some (.int .i64 now) := by rw [cell_of_row _ _ _ _ _ _ F3.out.ba]; rfl
          have pA5 : w3.cell? ⟨wr.heap.size, 5, none⟩ = some (.int .i64 d) := by rw [cell_of_row _ _ _ _ _ _ F3.out.ba]; rfl
          have pX0 : w3.cell? ⟨wr.heap.size + 1, 0, none⟩ = some (.int .i64 next) := by rw [cell_of_row _ _ _ _ _ _ F3.out.bx]; rfl
          have qX0 : w3.frozen? ⟨wr.heap.size + 1, 0, none⟩ = false := frozen_of_row _ _ _ _ _ F3.out.bx
          have pX1 : w3.cell? ⟨wr.heap.size + 1, 1, none⟩ = some (.slice at' m ct) := by rw [cell_of_row _ _ _ _ _ _ F3.out.bx]; rfl
          have qX1 : w3.frozen? ⟨wr.heap.size + 1, 1, none⟩ = false := frozen_of_row _ _ _ _ _ F3.out.bx
          go_wp2_with (first
            | (refine wpList_storeTYg rfl 24 (.tmp 6) (.tmp 58) rfl rfl rfl (tyT _ _ _ _) F3.out.bx rfl ?_; intro w4 g4 h4; have F4 := hid (F3.out.sx (Y := [.int .i64 nx, .slice ao5 k5 cap5]) g4 h4 z0.out (Nat.lt_trans hBw z0.out)); have R4 := hid (rd_kept (A := [.int .i64 next, .slice at' m ct]) M3.out.1 F3.out.bx (by simp) g4); clear g4 h4
               clear pT0 pT1 pX0 pX1 qT0 qT1 qX0 qX1 pA0 pA1 pA2 pA3 pA4 pA5
               have pT0 : w4.cell? ⟨B, 0, none⟩ = some (.int .i64 next) := by rw [cell_of_row _ _ _ _ _ _ F4.out.bt]; rfl
               have qT0 : w4.frozen? ⟨B, 0, none⟩ = false := frozen_of_row _ _ _ _ _ F4.out.bt
               have pT1 : w4.cell? ⟨B, 1, none⟩ = some (.slice at' m ct) := by rw [cell_of_row _ _ _ _ _ _ F4.out.bt]; rfl
               have qT1 : w4.frozen? ⟨B, 1, none⟩ = false := frozen_of_row _ _ _ _ _ F4.out.bt
               have pA0 : w4.cell? ⟨wr.heap.size, 0, none⟩ = some (.int .i64 kd) := by rw [cell_of_row _ _ _ _ _ _ F4.out.ba]; rfl
               have pA1 : w4.cell? ⟨wr.heap.size, 1, none⟩ = some (.int .i64 n) := by rw [cell_of_row _ _ _ _ _ _ F4.out.ba]; rfl
               have pA2 : w4.cell? ⟨wr.heap.size, 2, none⟩ = some (.int .i64 ho) := by rw [cell_of_row _ _ _ _ _ _ F4.out.ba]; rfl
               have pA3 : w4.cell? ⟨wr.heap.size, 3, none⟩ = some (.int .i64 tk) := by rw [cell_of_row _ _ _ _ _ _ F4.out.ba]; rfl
               have pA4 : w4.cell? ⟨wr.heap.size, 4, none⟩ = some (.int .i64 now) := by rw [cell_of_row _ _ _ _ _ _ F4.out.ba]; rfl
               have pA5 : w4.cell? ⟨wr.heap.size, 5, none⟩ = some (.int .i64 d) := by rw [cell_of_row _ _ _ _ _ _ F4.out.ba]; rfl
               have pX0 : w4.cell? ⟨wr.heap.size + 1, 0, none⟩ = some (.int .i64 nx) := by rw [cell_of_row _ _ _ _ _ _ F4.out.bx]; rfl
               have qX0 : w4.frozen? ⟨wr.heap.size + 1, 0, none⟩ = false := frozen_of_row _ _ _ _ _ F4.out.bx
               have pX1 : w4.cell? ⟨wr.heap.size + 1, 1, none⟩ = some (.slice ao5 k5 cap5) := by rw [cell_of_row _ _ _ _ _ _ F4.out.bx]; rfl
               have qX1 : w4.frozen? ⟨wr.heap.size + 1, 1, none⟩ = false := frozen_of_row _ _ _ _ _ F4.out.bx)
            | fail)
          go_wp2
          · rename_i hb
            have he : er = 0 := by simpa using hb
            go_roundw
            case rel => exact ⟨k + 1, ⟨nx, L⟩, ao5, k5, cap5, by omega, by omega, by go_num, hid ⟨(HE.out.trans (if_pos he)).symm, hL⟩, F4.out.take (r := ⟨nx, L⟩) R4.out hBw⟩
            case measure => simp [intOf]; omega
          · rename_i hb
            have he : ¬ er = 0 := by simpa using hb
            go_roundw
            case rel => exact ⟨k + 1, ⟨next, ls⟩, at', m, ct, by omega, by omega, by go_num, hid ⟨(HE.out.trans (if_neg he)).symm, HT.out.2⟩, F4.out.keep⟩
            case measure => simp [intOf]; omega
        by_cases h2 : bits .and .i64 kd 3 = 2
        · have H2 := hid h2
          have u0 : (bits .and .i64 kd 3 == 0) = false := by rw [h2]; rfl
          have u1 : (bits .and .i64 kd 3 == 1) = false := by rw [h2]; rfl
          have u2 : (bits .and .i64 kd 3 == 2) = true := by rw [h2]; rfl
          obtain ⟨⟨⟨nx, L⟩, er⟩, hq⟩ : ∃ q, rel cds ⟨next, ls⟩ n ho tk = q := ⟨_, rfl⟩
          have HQ := hid hq
          have hL : L.length ≤ 65 := by have h := rel_len ⟨next, ls⟩ n ho tk; rw [hq] at h; exact h
          have HE := hid (show (l.take (k + 1)).foldl stp ⟨1, []⟩ = if (er : Int) = 0 then ⟨nx, L⟩ else ⟨next, ls⟩ from by rw [HS.out]; unfold stp Ac.res Ac.op; simp only [h2, hq]; rfl)
          clear hq h2
          go_wp2_with fail
          rw [← HW2.out]
          refine (relR_call (w0 := W2) HQ.out F2.out.rd (World.grownBy.refl _ _) hls).mono ?_
          rintro e w3 ⟨ao5, k5, cap5, rfl, M3⟩
          have F3 := hid (F2.out.call M3.out.2)
          have pT0 : w3.cell? ⟨B, 0, none⟩ = some (.int .i64 next) := by rw [cell_of_row _ _ _ _ _ _ F3.out.bt]; rfl
          have qT0 : w3.frozen? ⟨B, 0, none⟩ = false := frozen_of_row _ _ _ _ _ F3.out.bt
          have pT1 : w3.cell? ⟨B, 1, none⟩ = some (.slice at' m ct) := by rw [cell_of_row _ _ _ _ _ _ F3.out.bt]; rfl
          have qT1 : w3.frozen? ⟨B, 1, none⟩ = false := frozen_of_row _ _ _ _ _ F3.out.bt
          have pA0 : w3.cell? ⟨wr.heap.size, 0, none⟩ = some (.int .i64 kd) := by rw [cell_of_row _ _ _ _ _ _ F3.out.ba]; rfl
          have pA1 : w3.cell? ⟨wr.heap.size, 1, none⟩ = some (.int .i64 n) := by rw [cell_of_row _ _ _ _ _ _ F3.out.ba]; rfl
          have pA2 : w3.cell? ⟨wr.heap.size, 2, none⟩ = some (.int .i64 ho) := by rw [cell_of_row _ _ _ _ _ _ F3.out.ba]; rfl
          have pA3 : w3.cell? ⟨wr.heap.size, 3, none⟩ = some (.int .i64 tk) := by rw [cell_of_row _ _ _ _ _ _ F3.out.ba]; rfl
          have pA4 : w3.cell? ⟨wr.heap.size, 4, none⟩ = some (.int .i64 now) := by rw [cell_of_row _ _ _ _ _ _ F3.out.ba]; rfl
          have pA5 : w3.cell? ⟨wr.heap.size, 5, none⟩ = some (.int .i64 d) := by rw [cell_of_row _ _ _ _ _ _ F3.out.ba]; rfl
          have pX0 : w3.cell? ⟨wr.heap.size + 1, 0, none⟩ = some (.int .i64 next) := by rw [cell_of_row _ _ _ _ _ _ F3.out.bx]; rfl
          have qX0 : w3.frozen? ⟨wr.heap.size + 1, 0, none⟩ = false := frozen_of_row _ _ _ _ _ F3.out.bx
          have pX1 : w3.cell? ⟨wr.heap.size + 1, 1, none⟩ = some (.slice at' m ct) := by rw [cell_of_row _ _ _ _ _ _ F3.out.bx]; rfl
          have qX1 : w3.frozen? ⟨wr.heap.size + 1, 1, none⟩ = false := frozen_of_row _ _ _ _ _ F3.out.bx
          go_wp2_with (first
            | (refine wpList_storeTYg rfl 24 (.tmp 6) (.tmp 71) rfl rfl rfl (tyT _ _ _ _) F3.out.bx rfl ?_; intro w4 g4 h4; have F4 := hid (F3.out.sx (Y := [.int .i64 nx, .slice ao5 k5 cap5]) g4 h4 z0.out (Nat.lt_trans hBw z0.out)); have R4 := hid (rd_kept (A := [.int .i64 next, .slice at' m ct]) M3.out.1 F3.out.bx (by simp) g4); clear g4 h4
               clear pT0 pT1 pX0 pX1 qT0 qT1 qX0 qX1 pA0 pA1 pA2 pA3 pA4 pA5
               have pT0 : w4.cell? ⟨B, 0, none⟩ = some (.int .i64 next) := by rw [cell_of_row _ _ _ _ _ _ F4.out.bt]; rfl
               have qT0 : w4.frozen? ⟨B, 0, none⟩ = false := frozen_of_row _ _ _ _ _ F4.out.bt
               have pT1 : w4.cell? ⟨B, 1, none⟩ = some (.slice at' m ct) := by rw [cell_of_row _ _ _ _ _ _ F4.out.bt]; rfl
               have qT1 : w4.frozen? ⟨B, 1, none⟩ = false := frozen_of_row _ _ _ _ _ F4.out.bt
               have pA0 : w4.cell? ⟨wr.heap.size, 0, none⟩ = some (.int .i64 kd) := by rw [cell_of_row _ _ _ _ _ _ F4.out.ba]; rfl
               have pA1 : w4.cell? ⟨wr.heap.size, 1, none⟩ = some (.int .i64 n) := by rw [cell_of_row _ _ _ _ _ _ F4.out.ba]; rfl
               have pA2 : w4.cell? ⟨wr.heap.size, 2, none⟩ = some (.int .i64 ho) := by rw [cell_of_row _ _ _ _ _ _ F4.out.ba]; rfl
               have pA3 : w4.cell? ⟨wr.heap.size, 3, none⟩ = some (.int .i64 tk) := by rw [cell_of_row _ _ _ _ _ _ F4.out.ba]; rfl
               have pA4 : w4.cell? ⟨wr.heap.size, 4, none⟩ = some (.int .i64 now) := by rw [cell_of_row _ _ _ _ _ _ F4.out.ba]; rfl
               have pA5 : w4.cell? ⟨wr.heap.size, 5, none⟩ = some (.int .i64 d) := by rw [cell_of_row _ _ _ _ _ _ F4.out.ba]; rfl
               have pX0 : w4.cell? ⟨wr.heap.size + 1, 0, none⟩ = some (.int .i64 nx) := by rw [cell_of_row _ _ _ _ _ _ F4.out.bx]; rfl
               have qX0 : w4.frozen? ⟨wr.heap.size + 1, 0, none⟩ = false := frozen_of_row _ _ _ _ _ F4.out.bx
               have pX1 : w4.cell? ⟨wr.heap.size + 1, 1, none⟩ = some (.slice ao5 k5 cap5) := by rw [cell_of_row _ _ _ _ _ _ F4.out.bx]; rfl
               have qX1 : w4.frozen? ⟨wr.heap.size + 1, 1, none⟩ = false := frozen_of_row _ _ _ _ _ F4.out.bx)
            | fail)
          go_wp2
          · rename_i hb
            have he : er = 0 := by simpa using hb
            go_roundw
            case rel => exact ⟨k + 1, ⟨nx, L⟩, ao5, k5, cap5, by omega, by omega, by go_num, hid ⟨(HE.out.trans (if_pos he)).symm, hL⟩, F4.out.take (r := ⟨nx, L⟩) R4.out hBw⟩
            case measure => simp [intOf]; omega
          · rename_i hb
            have he : ¬ er = 0 := by simpa using hb
            go_roundw
            case rel => exact ⟨k + 1, ⟨next, ls⟩, at', m, ct, by omega, by omega, by go_num, hid ⟨(HE.out.trans (if_neg he)).symm, HT.out.2⟩, F4.out.keep⟩
            case measure => simp [intOf]; omega
        by_cases h3 : bits .and .i64 kd 3 = 3
        · have H3 := hid h3
          have u0 : (bits .and .i64 kd 3 == 0) = false := by rw [h3]; rfl
          have u1 : (bits .and .i64 kd 3 == 1) = false := by rw [h3]; rfl
          have u2 : (bits .and .i64 kd 3 == 2) = false := by rw [h3]; rfl
          have u3 : (bits .and .i64 kd 3 == 3) = true := by rw [h3]; rfl
          obtain ⟨⟨nx, L⟩, hq⟩ : ∃ q, expd ⟨next, ls⟩ now = q := ⟨_, rfl⟩
          have HQ := hid hq
          have hL : L.length ≤ 65 := by have h := expd_len ⟨next, ls⟩ now; rw [hq] at h; exact h
          have HE := hid (show (l.take (k + 1)).foldl stp ⟨1, []⟩ = if (0 : Int) = 0 then ⟨nx, L⟩ else ⟨next, ls⟩ from by rw [HS.out]; unfold stp Ac.res Ac.op; simp only [h3, hq]; rfl)
          clear hq h3
          go_wp2_with fail
          rw [← HW2.out]
          refine (expR_call (w0 := W2) HQ.out F2.out.rd (World.grownBy.refl _ _) hls).mono ?_
          rintro e w3 ⟨ao5, k5, cap5, rfl, M3⟩
          have F3 := hid (F2.out.call M3.out.2)
          have pT0 : w3.cell? ⟨B, 0, none⟩ = some (.int .i64 next) := by rw [cell_of_row _ _ _ _ _ _ F3.out.bt]; rfl
          have qT0 : w3.frozen? ⟨B, 0, none⟩ = false := frozen_of_row _ _ _ _ _ F3.out.bt
          have pT1 : w3.cell? ⟨B, 1, none⟩ = some (.slice at' m ct) := by rw [cell_of_row _ _ _ _ _ _ F3.out.bt]; rfl
          have qT1 : w3.frozen? ⟨B, 1, none⟩ = false := frozen_of_row _ _ _ _ _ F3.out.bt
          have pA0 : w3.cell? ⟨wr.heap.size, 0, none⟩ = some (.int .i64 kd) := by rw [cell_of_row _ _ _ _ _ _ F3.out.ba]; rfl
          have pA1 : w3.cell? ⟨wr.heap.size, 1, none⟩ = some (.int .i64 n) := by rw [cell_of_row _ _ _ _ _ _ F3.out.ba]; rfl
          have pA2 : w3.cell? ⟨wr.heap.size, 2, none⟩ = some (.int .i64 ho) := by rw [cell_of_row _ _ _ _ _ _ F3.out.ba]; rfl
          have pA3 : w3.cell? ⟨wr.heap.size, 3, none⟩ = some (.int .i64 tk) := by rw [cell_of_row _ _ _ _ _ _ F3.out.ba]; rfl
          have pA4 : w3.cell? ⟨wr.heap.size, 4, none⟩ = some (.int .i64 now) := by rw [cell_of_row _ _ _ _ _ _ F3.out.ba]; rfl
          have pA5 : w3.cell? ⟨wr.heap.size, 5, none⟩ = some (.int .i64 d) := by rw [cell_of_row _ _ _ _ _ _ F3.out.ba]; rfl
          have pX0 : w3.cell? ⟨wr.heap.size + 1, 0, none⟩ = some (.int .i64 next) := by rw [cell_of_row _ _ _ _ _ _ F3.out.bx]; rfl
          have qX0 : w3.frozen? ⟨wr.heap.size + 1, 0, none⟩ = false := frozen_of_row _ _ _ _ _ F3.out.bx
          have pX1 : w3.cell? ⟨wr.heap.size + 1, 1, none⟩ = some (.slice at' m ct) := by rw [cell_of_row _ _ _ _ _ _ F3.out.bx]; rfl
          have qX1 : w3.frozen? ⟨wr.heap.size + 1, 1, none⟩ = false := frozen_of_row _ _ _ _ _ F3.out.bx
          go_wp2_with (first
            | (refine wpList_storeTYg rfl 24 (.tmp 6) (.tmp 78) rfl rfl rfl (tyT _ _ _ _) F3.out.bx rfl ?_; intro w4 g4 h4; have F4 := hid (F3.out.sx (Y := [.int .i64 nx, .slice ao5 k5 cap5]) g4 h4 z0.out (Nat.lt_trans hBw z0.out)); have R4 := hid (rd_kept (A := [.int .i64 next, .slice at' m ct]) M3.out.1 F3.out.bx (by simp) g4); clear g4 h4
               clear pT0 pT1 pX0 pX1 qT0 qT1 qX0 qX1 pA0 pA1 pA2 pA3 pA4 pA5
               have pT0 : w4.cell? ⟨B, 0, none⟩ = some (.int .i64 next) := by rw [cell_of_row _ _ _ _ _ _ F4.out.bt]; rfl
               have qT0 : w4.frozen? ⟨B, 0, none⟩ = false := frozen_of_row _ _ _ _ _ F4.out.bt
               have pT1 : w4.cell? ⟨B, 1, none⟩ = some (.slice at' m ct) := by rw [cell_of_row _ _ _ _ _ _ F4.out.bt]; rfl
               have qT1 : w4.frozen? ⟨B, 1, none⟩ = false := frozen_of_row _ _ _ _ _ F4.out.bt
               have pA0 : w4.cell? ⟨wr.heap.size, 0, none⟩ = some (.int .i64 kd) := by rw [cell_of_row _ _ _ _ _ _ F4.out.ba]; rfl
               have pA1 : w4.cell? ⟨wr.heap.size, 1, none⟩ = some (.int .i64 n) := by rw [cell_of_row _ _ _ _ _ _ F4.out.ba]; rfl
               have pA2 : w4.cell? ⟨wr.heap.size, 2, none⟩ = some (.int .i64 ho) := by rw [cell_of_row _ _ _ _ _ _ F4.out.ba]; rfl
               have pA3 : w4.cell? ⟨wr.heap.size, 3, none⟩ = some (.int .i64 tk) := by rw [cell_of_row _ _ _ _ _ _ F4.out.ba]; rfl
               have pA4 : w4.cell? ⟨wr.heap.size, 4, none⟩ = some (.int .i64 now) := by rw [cell_of_row _ _ _ _ _ _ F4.out.ba]; rfl
               have pA5 : w4.cell? ⟨wr.heap.size, 5, none⟩ = some (.int .i64 d) := by rw [cell_of_row _ _ _ _ _ _ F4.out.ba]; rfl
               have pX0 : w4.cell? ⟨wr.heap.size + 1, 0, none⟩ = some (.int .i64 nx) := by rw [cell_of_row _ _ _ _ _ _ F4.out.bx]; rfl
               have qX0 : w4.frozen? ⟨wr.heap.size + 1, 0, none⟩ = false := frozen_of_row _ _ _ _ _ F4.out.bx
               have pX1 : w4.cell? ⟨wr.heap.size + 1, 1, none⟩ = some (.slice ao5 k5 cap5) := by rw [cell_of_row _ _ _ _ _ _ F4.out.bx]; rfl
               have qX1 : w4.frozen? ⟨wr.heap.size + 1, 1, none⟩ = false := frozen_of_row _ _ _ _ _ F4.out.bx)
            | fail)
          go_wp2
          go_roundw
          case rel => exact ⟨k + 1, ⟨nx, L⟩, ao5, k5, cap5, by omega, by omega, by go_num, hid ⟨(HE.out.trans (if_pos trivial)).symm, hL⟩, F4.out.take (r := ⟨nx, L⟩) R4.out hBw⟩
          case measure => simp [intOf]; omega
        have := and3 kd
        omega
      · have t2 : decide ((k : Int) < 30) = false := by simp; omega
        obtain rfl : k = 30 := by omega
        have HE := hid (show r = t from by rw [HRR.out, HT.out.1]; rfl)
        go_wp2
        rw [HE.out]
        exact FK.out.fin rfl rfl rfl
    · obtain rfl : k = l.length := by omega
      have HE := hid (show r = t from by rw [HRR.out, HT.out.1]; unfold mk; rw [List.take_of_length_le (by omega), List.take_of_length_le (by omega)])
      go_wp2
      rw [HE.out]
      exact FK.out.fin rfl rfl rfl
end Go.Proofs.Ytafippjpaakonaa
