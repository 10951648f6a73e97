/- Key trees: nodes, spans. -/
import Derived.Test.YteakoleceoclkaaD13
namespace Go.Proofs.Yteakoleceoclkaa
open Go.RowKit
set_option linter.unusedSimpArgs false
set_option linter.unusedVariables false

/-- a node of a tree -/
structure Nd where
  d : Int
  p : Int
  k : List Nat
/-- a key of 32 bytes -/
def Dg (k : List Nat) : Prop := k.length = 32 ∧ ∀ x ∈ k, x < 256
def ncells (n : Nd) : List Value := .int .i64 n.d :: .int .i64 n.p :: bv n.k
def nval (n : Nd) : Value := .agg (ncells n).toArray
/-- depth and prefix are possible -/
def okN (n : Nd) : Bool := decide (0 ≤ n.d) && decide (n.d ≤ 34) && decide (0 ≤ n.p) && decide (n.p < 2 ^ n.d.toNat)
def lo (n : Nd) : Int := n.p * 2 ^ (34 - n.d).toNat
def hi (n : Nd) : Int := (n.p + 1) * 2 ^ (34 - n.d).toNat
def span (n : Nd) : Int × Int := if okN n = true then (lo n, hi n) else (0, 0)
def sval2 (s : Int × Int) : Value := .agg #[.int .i64 s.1, .int .i64 s.2]
theorem tyN (n : Nd) (h : n.k.length = 32) : TY Try.prog 91 (ncells n) (nval n) := by
  refine TY.agg Try.underlying91 rfl ?_ ?_
  · unfold ncells
    rw [List.length_cons, List.length_cons, bv_length, h]
    kernel_rfl
  · intro c hc
    unfold ncells at hc
    rcases List.mem_cons.1 hc with rfl | hc
    · rfl
    rcases List.mem_cons.1 hc with rfl | hc
    · rfl
    exact bv_ones _ c hc
theorem tyS2 (a b : Int) : TY Try.prog 89 [.int .i64 a, .int .i64 b] (.agg #[.int .i64 a, .int .i64 b]) := TY.agg Try.underlying89 rfl (by kernel_rfl) (by simp [Value.oneCell'])
theorem bS2 (a b : Int) (w : World) : (Instr.build 89 #[(0, .int .i64 a), (1, .int .i64 b)]).run Try.prog w = .ok (.agg #[.int .i64 a, .int .i64 b]) w := by kernel_rfl
theorem bS0 (w : World) : (Instr.build 89 #[]).run Try.prog w = .ok (.agg #[.int .i64 0, .int .i64 0]) w := by kernel_rfl
/-- a boxed node and a block behind it -/
theorem pauseB {K : World → Prop} {w : World} {C : List Value} {Z : Array Value} {T T2 : TypeId} (h : ∀ W : World, Hid (w.grownBy W none) → Hid (W.heap[w.heap.size]? = some (.cells C.toArray T (0, 0))) → Hid (W.heap[w.heap.size + 1]? = some (.cells Z T2 (0, 0))) → K W) :
    K ((w.alloc (.cells C.toArray T)).alloc (.cells Z T2)) :=
  h _ (hid (grown_trans (World.grownBy_alloc _ _ _) (World.grownBy_alloc _ _ _))) (hid (by rw [heap_past (by simp), heap_at rfl])) (hid (by rw [heap_at (by simp)]))
set_option maxRecDepth 100000 in
set_option maxHeartbeats 4000000 in
theorem spanOf_walk (n : Nd) (hk : Dg n.k) (hd : -9223372036854775808 ≤ n.d ∧ n.d ≤ 9223372036854775807) (hp : -9223372036854775808 ≤ n.p ∧ n.p ≤ 9223372036854775807) (w : World) :
    Calls Try.prog 85 #[nval n] w fun e w' => e = .returned (sval2 (span n)) ∧ w.grownBy w' none := by
  obtain ⟨d, p, k⟩ := n
  obtain ⟨C, hC⟩ : ∃ C, C = bv k := ⟨_, rfl⟩
  have HC := hid hC
  obtain ⟨r, hr⟩ : ∃ r, r = span ⟨d, p, k⟩ := ⟨_, rfl⟩
  rw [← hr]
  simp only at hd hp hk
  unfold span okN lo hi at hr
  simp only at hr
  have HR := hid hr
  unfold nval ncells
  simp only
  rw [← hC]
  clear hC hr hk
  have P2 : ∀ m : Nat, m < 35 → wrap64 ((2 : Int) ^ m) = 2 ^ m := by decide +kernel
  by_cases h1 : d < 0
  · have HZ := hid (show r = (0, 0) by rw [HR.out, if_neg (by simp; omega)])
    have t1 : decide (d < 0) = true := by simp; omega
    clear h1 P2
    clear HR hd hp
    go_enter Try.func85, Try.ntmps85
    go_wp2
    refine pauseB (C := .int .i64 d :: .int .i64 p :: C) fun W GW B0 B1 => ?_
    have c0 : W.cell? ⟨w.heap.size, 0, none⟩ = some (.int .i64 d) := by rw [cell_of_row _ _ _ _ _ _ B0.out]; rfl
    have c1 : W.cell? ⟨w.heap.size, 1, none⟩ = some (.int .i64 p) := by rw [cell_of_row _ _ _ _ _ _ B0.out]; rfl
    have y0 := block_lt_of_cell c0
    go_wp2
    go_quiet (fail)
    have B1 := hid (show (W.drewN nq).heap[w.heap.size + 1]? = some (.cells #[.int .i64 0, .int .i64 0] 89 (0, 0)) from B1.out)
    clear c0 c1 y0
    go_wp2_with (first
      | (refine wpList_buildR rfl 89 _ rfl #[] (by simp) (bS0 _) ?_)
      | (refine wpList_storeTYg rfl 89 (.tmp 2) (.tmp 25) rfl rfl rfl (tyS2 0 0) B1.out rfl ?_; intro w2 g2 h2; have G2 := hid g2; have H2 := hid h2; clear g2 h2)
      | fail)
    exact ret_cell (b := w.heap.size + 1) rfl rfl (tyS2 0 0) H2.out rfl ⟨by rw [HZ.out]; rfl, grown_newR (grown_trans GW.out (grown_drewN _ _)) G2.out (Nat.le_succ _)⟩
  by_cases h2 : 34 < d
  · have HZ := hid (show r = (0, 0) by rw [HR.out, if_neg (by simp; omega)])
    have t1 : decide (d < 0) = false := by simp; omega
    have t2 : decide (34 < d) = true := by simp; omega
    clear h1 h2 P2
    clear HR hd hp
    go_enter Try.func85, Try.ntmps85
    go_wp2
    refine pauseB (C := .int .i64 d :: .int .i64 p :: C) fun W GW B0 B1 => ?_
    have c0 : W.cell? ⟨w.heap.size, 0, none⟩ = some (.int .i64 d) := by rw [cell_of_row _ _ _ _ _ _ B0.out]; rfl
    have c1 : W.cell? ⟨w.heap.size, 1, none⟩ = some (.int .i64 p) := by rw [cell_of_row _ _ _ _ _ _ B0.out]; rfl
    have y0 := block_lt_of_cell c0
    go_wp2
    go_quiet (fail)
    have B1 := hid (show (W.drewN nq).heap[w.heap.size + 1]? = some (.cells #[.int .i64 0, .int .i64 0] 89 (0, 0)) from B1.out)
    clear c0 c1 y0
    go_wp2_with (first
      | (refine wpList_buildR rfl 89 _ rfl #[] (by simp) (bS0 _) ?_)
      | (refine wpList_storeTYg rfl 89 (.tmp 2) (.tmp 25) rfl rfl rfl (tyS2 0 0) B1.out rfl ?_; intro w2 g2 h2; have G2 := hid g2; have H2 := hid h2; clear g2 h2)
      | fail)
    exact ret_cell (b := w.heap.size + 1) rfl rfl (tyS2 0 0) H2.out rfl ⟨by rw [HZ.out]; rfl, grown_newR (grown_trans GW.out (grown_drewN _ _)) G2.out (Nat.le_succ _)⟩
  by_cases h3 : p < 0
  · have HZ := hid (show r = (0, 0) by rw [HR.out, if_neg (by simp; omega)])
    have t1 : decide (d < 0) = false := by simp; omega
    have t2 : decide (34 < d) = false := by simp; omega
    have t3 : decide (p < 0) = true := by simp; omega
    clear h1 h2 h3 P2
    clear HR hd hp
    go_enter Try.func85, Try.ntmps85
    go_wp2
    refine pauseB (C := .int .i64 d :: .int .i64 p :: C) fun W GW B0 B1 => ?_
    have c0 : W.cell? ⟨w.heap.size, 0, none⟩ = some (.int .i64 d) := by rw [cell_of_row _ _ _ _ _ _ B0.out]; rfl
    have c1 : W.cell? ⟨w.heap.size, 1, none⟩ = some (.int .i64 p) := by rw [cell_of_row _ _ _ _ _ _ B0.out]; rfl
    have y0 := block_lt_of_cell c0
    go_wp2
    go_quiet (fail)
    have B1 := hid (show (W.drewN nq).heap[w.heap.size + 1]? = some (.cells #[.int .i64 0, .int .i64 0] 89 (0, 0)) from B1.out)
    clear c0 c1 y0
    go_wp2_with (first
      | (refine wpList_buildR rfl 89 _ rfl #[] (by simp) (bS0 _) ?_)
      | (refine wpList_storeTYg rfl 89 (.tmp 2) (.tmp 25) rfl rfl rfl (tyS2 0 0) B1.out rfl ?_; intro w2 g2 h2; have G2 := hid g2; have H2 := hid h2; clear g2 h2)
      | fail)
    exact ret_cell (b := w.heap.size + 1) rfl rfl (tyS2 0 0) H2.out rfl ⟨by rw [HZ.out]; rfl, grown_newR (grown_trans GW.out (grown_drewN _ _)) G2.out (Nat.le_succ _)⟩
  obtain ⟨m, rfl⟩ : ∃ m : Nat, d = m := ⟨d.toNat, by omega⟩
  have hm : m ≤ 34 := by omega
  have t1 : decide ((m : Int) < 0) = false := by simp
  have t2 : decide ((34 : Int) < (m : Int)) = false := by simp; omega
  have t3 : decide (p < 0) = false := by simp; omega
  have i1 : (0 : Int) ≤ (m : Int) := by omega
  have i2 : (m : Int) ≤ 34 := by omega
  have hp2 := P2 m (by omega)
  by_cases h4 : (2 : Int) ^ m ≤ p
  · have HZ := hid (show r = (0, 0) by rw [HR.out, if_neg (by simp [h4])])
    have t4 : decide (wrap64 ((2 : Int) ^ m) ≤ p) = true := by rw [hp2]; simp [h4]
    clear HR hd h1 h2 h3 h4 hp2 P2
    go_enter Try.func85, Try.ntmps85
    go_wp2
    refine pauseB (C := .int .i64 (m : Int) :: .int .i64 p :: C) fun W GW B0 B1 => ?_
    have c0 : W.cell? ⟨w.heap.size, 0, none⟩ = some (.int .i64 (m : Int)) := by rw [cell_of_row _ _ _ _ _ _ B0.out]; rfl
    have c1 : W.cell? ⟨w.heap.size, 1, none⟩ = some (.int .i64 p) := by rw [cell_of_row _ _ _ _ _ _ B0.out]; rfl
    have y0 := block_lt_of_cell c0
    go_wp2
    go_quiet (fail)
    have B1 := hid (show (W.drewN nq).heap[w.heap.size + 1]? = some (.cells #[.int .i64 0, .int .i64 0] 89 (0, 0)) from B1.out)
    clear c0 c1 y0
    go_wp2_with (first
      | (refine wpList_buildR rfl 89 _ rfl #[] (by simp) (bS0 _) ?_)
      | (refine wpList_storeTYg rfl 89 (.tmp 2) (.tmp 25) rfl rfl rfl (tyS2 0 0) B1.out rfl ?_; intro w2 g2 h2; have G2 := hid g2; have H2 := hid h2; clear g2 h2)
      | fail)
    exact ret_cell (b := w.heap.size + 1) rfl rfl (tyS2 0 0) H2.out rfl ⟨by rw [HZ.out]; rfl, grown_newR (grown_trans GW.out (grown_drewN _ _)) G2.out (Nat.le_succ _)⟩
  · have t4 : decide (wrap64 ((2 : Int) ^ m) ≤ p) = false := by rw [hp2]; simp; omega
    have i3 : (0 : Int) ≤ p := by omega
    have i4 : p ≤ 17179869184 := by
      have : (2 : Int) ^ m ≤ 2 ^ 34 := by exact_mod_cast Nat.pow_le_pow_right (n := 2) (by decide) hm
      omega
    have HV := hid (show r = (p * 2 ^ (34 - m), (p + 1) * 2 ^ (34 - m)) by
      rw [HR.out, if_pos (by simp; omega)]
      rw [show (34 - (m : Int)).toNat = 34 - m by omega])
    have hb1 : p * 2 ^ (34 - m) ≤ 17179869184 ∧ 0 ≤ p * 2 ^ (34 - m) ∧ (p + 1) * 2 ^ (34 - m) ≤ 17179869184 ∧ 0 ≤ (p + 1) * 2 ^ (34 - m) := by
      have hq : (0 : Int) ≤ 2 ^ (34 - m) := Int.le_of_lt (Int.pow_pos (by decide))
      have h5 : (p + 1) * 2 ^ (34 - m) ≤ 2 ^ m * 2 ^ (34 - m) := Int.mul_le_mul_of_nonneg_right (by omega) hq
      rw [← Int.pow_add, show m + (34 - m) = 34 by omega] at h5
      have h6 : 0 ≤ p * 2 ^ (34 - m) := Int.mul_nonneg i3 hq
      have h7 : (p + 1) * 2 ^ (34 - m) = p * 2 ^ (34 - m) + 2 ^ (34 - m) := by rw [Int.add_mul, Int.one_mul]
      omega
    have w1 : IntKind.i64.wrap (p + 1) = p + 1 := by rw [IntKind.wrap_i64]; omega
    have HW := hid (show IntKind.i64.wrap (p * 2 ^ (34 - m)) = p * 2 ^ (34 - m) ∧ IntKind.i64.wrap (IntKind.i64.wrap (p + 1) * 2 ^ (34 - m)) = (p + 1) * 2 ^ (34 - m) by
      rw [w1, IntKind.wrap_i64, IntKind.wrap_i64]
      omega)
    have j1 : (34 - (m : Int)).toNat = 34 - m := by omega
    have j2 : (0 : Int) ≤ 34 - (m : Int) := by omega
    have j3 : 34 - (m : Int) < 64 := by omega
    clear HR hd h1 h2 h3 h4 hp2 P2 hb1 w1
    go_enter Try.func85, Try.ntmps85
    go_wp2
    refine pauseB (C := .int .i64 (m : Int) :: .int .i64 p :: C) fun W GW B0 B1 => ?_
    have c0 : W.cell? ⟨w.heap.size, 0, none⟩ = some (.int .i64 (m : Int)) := by rw [cell_of_row _ _ _ _ _ _ B0.out]; rfl
    have c1 : W.cell? ⟨w.heap.size, 1, none⟩ = some (.int .i64 p) := by rw [cell_of_row _ _ _ _ _ _ B0.out]; rfl
    have y0 := block_lt_of_cell c0
    go_wp2
    go_quiet (fail)
    have B1 := hid (show (W.drewN nq).heap[w.heap.size + 1]? = some (.cells #[.int .i64 0, .int .i64 0] 89 (0, 0)) from B1.out)
    go_wp2
    refine wp_region_quiet_tail 10 (by kernel_rfl) (by kernel_rfl) ?_
    simp only [List.take_succ_cons, List.take_zero, List.drop_succ_cons, List.drop_zero]
    repeat (quiet_step (fail))
    refine wpQuiet_nil ?_
    intro _ hwq
    obtain ⟨nr, hwq⟩ := hwq
    subst hwq
    have B2 := hid (show ((W.drewN nq).drewN nr).heap[w.heap.size + 1]? = some (.cells #[.int .i64 0, .int .i64 0] 89 (0, 0)) from B1.out)
    clear c0 c1 y0
    go_wp2_with (first
      | (refine wpList_storeTYg rfl 89 (.tmp 2) (.tmp 38) rfl rfl rfl (tyS2 _ _) B2.out rfl ?_; intro w2 g2 h2; have G2 := hid g2; have H2 := hid h2; clear g2 h2)
      | fail)
    exact ret_cell (b := w.heap.size + 1) rfl rfl (tyS2 _ _) H2.out rfl ⟨by rw [HV.out, HW.out.1, HW.out.2]; rfl, grown_newR (grown_trans GW.out (grown_trans (grown_drewN _ _) (grown_drewN _ _))) G2.out (Nat.le_succ _)⟩
end Go.Proofs.Yteakoleceoclkaa
