/- Key trees: the small functions. -/
import Derived.Test.YteakoleceoclkaaK2
import Derived.Test.YteakoleceoclkaaQ2
namespace Go.Proofs.Yteakoleceoclkaa
open Go.RowKit
set_option linter.unusedSimpArgs false
set_option linter.unusedVariables false

def bit (n : Nd) (a : Int) : Bool := decide (a / 2 ^ (33 - n.d).toNat % 2 = 1)
theorem and_one {x : Int} (h : 0 ≤ x ∧ x < 9223372036854775808) : bits .and .i64 x 1 = x % 2 := by
  have e : bits .and .i64 x 1 = IntKind.i64.wrap (((BitVec.ofInt 64 x) &&& (BitVec.ofInt 64 1)).toNat : Int) := rfl
  rw [e, BitVec.toNat_and, show (BitVec.ofInt 64 1).toNat = 1 from rfl, Nat.and_one_is_mod, BitVec.toNat_ofInt, IntKind.wrap_i64]
  omega
theorem pauseB1 {K : World → Prop} {w : World} {o : Obj} (h : ∀ W : World, Hid (w.grownBy W none) → Hid (W.heap[w.heap.size]? = some o) → K W) : K (w.alloc o) :=
  h _ (hid (World.grownBy_alloc _ _ _)) (hid (heap_at rfl))
theorem ncell0 {w : World} {b : Nat} {n : Nd} {t : TypeId} {fr : Nat × Nat} (h : w.heap[b]? = some (.cells (ncells n).toArray t fr)) : w.cell? ⟨b, 0, none⟩ = some (.int .i64 n.d) ∧ w.cell? ⟨b, 1, none⟩ = some (.int .i64 n.p) ∧ b < w.heap.size := by
  have c0 : w.cell? ⟨b, 0, none⟩ = some (.int .i64 n.d) := by rw [cell_of_row _ _ _ _ _ _ h]; rfl
  exact ⟨c0, by rw [cell_of_row _ _ _ _ _ _ h]; rfl, block_lt_of_cell c0⟩
theorem div_bd {a : Int} (h : 0 ≤ a ∧ a < 17179869184) (k : Nat) : 0 ≤ a / 2 ^ k ∧ a / 2 ^ k < 17179869184 := by
  have hq : (0 : Int) < 2 ^ k := Int.pow_pos (by decide)
  refine ⟨Int.ediv_nonneg h.1 (Int.le_of_lt hq), Int.lt_of_le_of_lt (Int.ediv_le_self _ h.1) h.2⟩
set_option maxRecDepth 100000 in
set_option maxHeartbeats 2000000 in
theorem isRight_walk (n : Nd) (a : Int) (hd : 0 ≤ n.d ∧ n.d ≤ 33) (ha : 0 ≤ a ∧ a < 17179869184) (w : World) :
    Calls Try.prog 57 #[nval n, .int .i64 a] w fun e w' => e = .returned (.bool (bit n a)) ∧ w.grownBy w' none := by
  obtain ⟨d, p, k⟩ := n
  simp only at hd
  obtain ⟨m, rfl⟩ : ∃ m : Nat, d = m := ⟨d.toNat, by omega⟩
  have hdb := div_bd ha (33 - m)
  have HA := hid (and_one (x := a / 2 ^ (33 - m)) (by omega))
  have HB := hid (show bit ⟨(m : Int), p, k⟩ a = (a / 2 ^ (33 - m) % 2 == 1) by
    unfold bit
    simp only
    rw [show (33 - (m : Int)).toNat = 33 - m by omega]
    rw [Bool.eq_iff_iff]
    simp)
  obtain ⟨b, hb⟩ : ∃ b, b = bit ⟨(m : Int), p, k⟩ a := ⟨_, rfl⟩
  rw [← hb] at HB ⊢
  obtain ⟨C, hC⟩ : ∃ C, C = ncells ⟨(m : Int), p, k⟩ := ⟨_, rfl⟩
  unfold nval
  rw [← hC]
  have HC := hid hC
  have i1 : (0 : Int) ≤ (m : Int) := by omega
  have i2 : (m : Int) ≤ 33 := by omega
  have j0 : 34 - (m : Int) - 1 = 33 - (m : Int) := by omega
  have j1 : (34 - (m : Int) - 1).toNat = 33 - m := by omega
  have j2 : (0 : Int) ≤ 34 - (m : Int) - 1 := by omega
  have j3 : 34 - (m : Int) - 1 < 64 := by omega
  clear hC hb hdb hd j0
  go_enter Try.func57, Try.ntmps57
  refine wp_seq_k fun K1 k1 => ?_
  have HK1 := hid k1
  clear k1
  go_wp2
  refine HK1.out _ _ ?_
  clear HK1
  refine pauseB1 fun W GW B0 => ?_
  rw [HC.out] at B0
  obtain ⟨c0, c1, y0⟩ := ncell0 B0.out
  go_wp2
  go_ret
  exact ⟨by rw [HB.out, ← HA.out]; rfl, GW.out⟩
set_option maxRecDepth 100000 in
set_option maxHeartbeats 2000000 in
theorem size_walk (m : Nat) (hm : m ≤ 34) (w : World) : Calls Try.prog 60 #[.int .i64 (m : Int)] w fun e w' => e = .returned (.int .i64 (2 ^ (34 - m))) ∧ w' = w := by
  have i1 : (0 : Int) ≤ (m : Int) := by omega
  have i2 : (m : Int) ≤ 34 := by omega
  have j1 : (34 - (m : Int)).toNat = 34 - m := by omega
  have j2 : (0 : Int) ≤ 34 - (m : Int) := by omega
  have j3 : 34 - (m : Int) < 64 := by omega
  have P2 : ∀ m : Nat, m < 35 → wrap64 ((2 : Int) ^ m) = 2 ^ m := by decide +kernel
  have HP := hid (P2 (34 - m) (by omega))
  clear P2
  go_enter Try.func60, Try.ntmps60
  go_wp2
  go_ret
  exact ⟨by rw [HP.out]; rfl, rfl⟩
theorem loadsAt {P : Program} {T : TypeId} {cs : List Value} {v : Value} (t : TY P T cs v) {w : World} {b k : Nat} (hr : w.rangeAt b k cs) : (Instr.loadAt T (.pointer (some ⟨b, k, none⟩))).run P w = .ok v w := by
  have hl := t.load w b k hr
  simp only [Instr.loadAt, Instr.sureAddr, Sem.run_bind, Sem.run_pure, Result.andThen_ok, hl]
theorem list32 (l : List Nat) (h : l.length = 32) : ∃ x0 x1 x2 x3 x4 x5 x6 x7 x8 x9 x10 x11 x12 x13 x14 x15 x16 x17 x18 x19 x20 x21 x22 x23 x24 x25 x26 x27 x28 x29 x30 x31, l = [x0, x1, x2, x3, x4, x5, x6, x7, x8, x9, x10, x11, x12, x13, x14, x15, x16, x17, x18, x19, x20, x21, x22, x23, x24, x25, x26, x27, x28, x29, x30, x31] := by
  match l, h with
  | [x0, x1, x2, x3, x4, x5, x6, x7, x8, x9, x10, x11, x12, x13, x14, x15, x16, x17, x18, x19, x20, x21, x22, x23, x24, x25, x26, x27, x28, x29, x30, x31], _ => exact ⟨_, _, _, _, _, _, _, _, _, _, _, _, _, _, _, _, _, _, _, _, _, _, _, _, _, _, _, _, _, _, _, _, rfl⟩
def cov (n : Nd) (a : Int) : Bool := decide (a / 2 ^ (34 - n.d).toNat = n.p)
set_option maxRecDepth 100000 in
set_option maxHeartbeats 2000000 in
theorem covers_walk (n : Nd) (a : Int) (hd : 0 ≤ n.d ∧ n.d ≤ 34) (ha : 0 ≤ a ∧ a < 17179869184) (w : World) :
    Calls Try.prog 63 #[nval n, .int .i64 a] w fun e w' => e = .returned (.bool (cov n a)) ∧ w.grownBy w' none := by
  obtain ⟨d, p, k⟩ := n
  simp only at hd
  obtain ⟨m, rfl⟩ : ∃ m : Nat, d = m := ⟨d.toNat, by omega⟩
  have HB := hid (show cov ⟨(m : Int), p, k⟩ a = (a / 2 ^ (34 - m) == p) by
    unfold cov
    simp only
    rw [show (34 - (m : Int)).toNat = 34 - m by omega]
    rfl)
  obtain ⟨b, hb⟩ : ∃ b, b = cov ⟨(m : Int), p, k⟩ a := ⟨_, rfl⟩
  rw [← hb] at HB ⊢
  obtain ⟨C, hC⟩ : ∃ C, C = ncells ⟨(m : Int), p, k⟩ := ⟨_, rfl⟩
  unfold nval
  rw [← hC]
  have HC := hid hC
  have hq : (0 : Int) < 2 ^ (34 - m) := Int.pow_pos (by decide)
  obtain ⟨q, hqq⟩ : ∃ q : Int, q = 2 ^ (34 - m) := ⟨_, rfl⟩
  rw [← hqq] at HB hq
  have HQ := hid hqq
  have HS := hid (fun w => size_walk m (by omega) w)
  rw [← hqq] at HS
  have a1 : 0 ≤ a := ha.1
  have a2 : a < 17179869184 := ha.2
  clear hC hb hd hqq ha
  go_enter Try.func63, Try.ntmps63
  refine wp_seq_k fun K1 k1 => ?_
  have HK1 := hid k1
  clear k1
  go_wp2
  refine HK1.out _ _ ?_
  clear HK1
  refine pauseB1 fun W GW B0 => ?_
  rw [HC.out] at B0
  obtain ⟨c0, c1, y0⟩ := ncell0 B0.out
  go_wp2
  go_quiet ((exact Calls.quiet_of_same (HS.out _)))
  go_wp2
  go_ret
  exact ⟨by rw [HB.out]; rfl, grown_trans GW.out (grown_drewN _ _)⟩
theorem bN3 (d p : Int) (l : List Nat) (hl : l.length = 32) (w : World) : (Instr.build 91 #[(0, .int .i64 d), (1, .int .i64 p), (2, dval l)]).run Try.prog w = .ok (nval ⟨d, p, l⟩) w := by
  obtain ⟨x0, x1, x2, x3, x4, x5, x6, x7, x8, x9, x10, x11, x12, x13, x14, x15, x16, x17, x18, x19, x20, x21, x22, x23, x24, x25, x26, x27, x28, x29, x30, x31, rfl⟩ := list32 l hl
  kernel_rfl
set_option maxRecDepth 100000 in
set_option maxHeartbeats 400000 in
theorem rchild_walk (n : Nd) (r : Bool) {R : Int} (hr : R = if r then 1 else 0) (hk : Dg n.k) (hd : 0 ≤ n.d ∧ n.d ≤ 34) (hp : 0 ≤ n.p ∧ n.p ≤ 17179869184) (w : World) :
    Calls Try.prog 59 #[nval n, .int .i64 R] w fun e w' => e = .returned (nval (child n r)) ∧ w.grownBy w' none := by
  obtain ⟨d, p, k⟩ := n
  obtain ⟨i1, i2⟩ := hd
  obtain ⟨i3, i4⟩ := hp
  simp only at i1 i2 i3 i4 hk
  have HK := hid hk
  obtain ⟨C, hC⟩ : ∃ C, C = ncells ⟨d, p, k⟩ := ⟨_, rfl⟩
  unfold nval
  rw [← hC]
  have HC := hid hC
  have r1 : 0 ≤ R := by rw [hr]; split <;> omega
  have r2 : R ≤ 1 := by rw [hr]; split <;> omega
  obtain ⟨KK, hKK⟩ : ∃ K, K = ck r k := ⟨_, rfl⟩
  have HW := hid (show IntKind.u64.wrap (IntKind.i64.wrap (270 + R)) = wi (if r then 271 else 270) by rw [hr]; cases r <;> decide)
  have w1 : IntKind.i64.wrap (d + 1) = d + 1 := by rw [IntKind.wrap_i64]; omega
  have w2 : IntKind.i64.wrap (IntKind.i64.wrap (2 * p) + R) = 2 * p + R := by rw [IntKind.wrap_i64, IntKind.wrap_i64]; omega
  have HCH := hid (show child ⟨d, p, k⟩ r = ⟨IntKind.i64.wrap (d + 1), IntKind.i64.wrap (IntKind.i64.wrap (2 * p) + R), KK⟩ by rw [w1, w2, hKK]; unfold child; rw [hr])
  have KL := hid (show Dg KK by rw [hKK]; exact ck_dg r k)
  have HCL := hid (show ∀ W : World, Calls Try.prog 76 #[.int .u64 (IntKind.u64.wrap (IntKind.i64.wrap (270 + R))), dval k, .slice none 0 0] W fun e w' => e = .returned (dval KK) ∧ W.grownBy w' none from fun W => by rw [hKK]; exact rkeyed_call _ HW.out k HK.out W)
  clear hk hC hr w1 w2 HW hKK
  go_enter Try.func59, Try.ntmps59
  refine wp_seq_k fun K1 k1 => ?_
  have HK1 := hid k1
  clear k1
  go_wp2
  refine HK1.out _ _ ?_
  clear HK1
  refine pauseN2 fun W GW B0 B1 HSZ => ?_
  rw [HC.out] at B0
  have c0 : ∀ s : Gw W, s.val.cell? ⟨w.heap.size, 0, none⟩ = some (.int .i64 d) := fun s => s.cell (ncell0 B0.out).1
  have c1 : ∀ s : Gw W, s.val.cell? ⟨w.heap.size, 1, none⟩ = some (.int .i64 p) := fun s => s.cell (ncell0 B0.out).2.1
  have HL := hid (show ∀ w', (∃ s : Gw W, w' = s.val) → (Instr.loadAt 29 (.pointer (some ⟨w.heap.size, 2, none⟩))).run Try.prog w' = .ok (dval k) w' from fun w' ⟨s, e⟩ => by subst e; exact loadsAt (tyD k HK.out.1) (key_range (row_of s.g B0.out (by simp))))
  refine wp_seq_k fun K2 k2 => ?_
  have HK2 := hid k2
  clear k2
  refine wp_region_grown_tail 15 (by kernel_rfl) (by kernel_rfl) ?_
  simp only [List.take_succ_cons, List.take_zero, List.drop_succ_cons, List.drop_zero]
  iterate 12 (quiet_step (fail))
  refine wpQuiet_load rfl 29 (.tmp 16) rfl rfl HL.out ?_
  quiet_step ((exact Calls.grown_of (HCL.out _)))
  refine wpQuiet_build rfl 91 _ rfl #[(0, .int .i64 (IntKind.i64.wrap (d + 1))), (1, .int .i64 (IntKind.i64.wrap (IntKind.i64.wrap (2 * p) + R))), (2, dval (KK))] (by simp only [List.map_toArray, List.map_cons, List.map_nil, Act.eval]; rfl) (bN3 _ _ _ KL.out.1) ?_
  refine wpQuiet_nil ?_
  rintro _ ⟨s, rfl⟩
  have B2 := hid (row_of s.g B1.out (by simp))
  have GS := hid s.g
  generalize s.val = W3 at *
  clear c0 c1 HL
  go_wp2_with (first
    | (refine wpList_storeTYg rfl 91 (.tmp 4) (.tmp 19) rfl rfl rfl (tyN ⟨IntKind.i64.wrap (d + 1), IntKind.i64.wrap (IntKind.i64.wrap (2 * p) + R), KK⟩ KL.out.1) B2.out (by rw [ncells_len _ KL.out.1]; rfl) ?_; intro W6 g6 h6; have G6 := hid g6; have H6 := hid h6; clear g6 h6)
    | fail)
  refine HK2.out _ _ ?_
  go_wp2
  exact ret_cell (b := w.heap.size + 1) rfl rfl (tyN ⟨IntKind.i64.wrap (d + 1), IntKind.i64.wrap (IntKind.i64.wrap (2 * p) + R), KK⟩ KL.out.1) H6.out rfl ⟨by rw [HCH.out]; rfl, grown_newR (grown_trans GW.out GS.out) G6.out (Nat.le_succ _)⟩
end Go.Proofs.Yteakoleceoclkaa
