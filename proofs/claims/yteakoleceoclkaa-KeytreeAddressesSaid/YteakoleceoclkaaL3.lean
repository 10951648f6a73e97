/- Key trees: the law KeytreeAddresses. -/
import Derived.Test.YteakoleceoclkaaK18
namespace Go.Proofs.Yteakoleceoclkaa
open Go.RowKit Go.Shelf
set_option linter.unusedSimpArgs false
set_option linter.unusedVariables false
attribute [local go_sem] Oper.semAt_some

theorem cellsTwo' : Try.prog.cellsOf 22 = 2 := by kernel_rfl
theorem lits_two (d : Nat) (a b : Int) (ha : -9223372036854775808 ≤ a ∧ a ≤ 9223372036854775807) (hb : -9223372036854775808 ≤ b ∧ b ≤ 9223372036854775807) : Try.prog.keyLits (d + 2) 22 [.int .i64 a, .int .i64 b] = some [.int .i64 a, .int .i64 b] := by
  unfold Program.keyLits
  rw [Try.underlying22]
  simp only
  rw [if_pos (by rw [cellsTwo']; rfl)]
  have e0 : ([Value.int .i64 a, .int .i64 b].drop (0 * 1)).take 1 = [.int .i64 a] := rfl
  have e1 : ([Value.int .i64 a, .int .i64 b].drop (1 * 1)).take 1 = [.int .i64 b] := rfl
  rw [show List.range 2 = [0, 1] from rfl]
  simp only [List.mapM_cons, List.mapM_nil, cellsI, e0, e1, lits_i d a ha, lits_i d b hb]
  simp
theorem two_eqb {a b c e : Int} (ha : -9223372036854775808 ≤ a ∧ a ≤ 9223372036854775807) (hb : -9223372036854775808 ≤ b ∧ b ≤ 9223372036854775807) (hc : -9223372036854775808 ≤ c ∧ c ≤ 9223372036854775807) (he : -9223372036854775808 ≤ e ∧ e ≤ 9223372036854775807) (px py : Operand) (w : World) :
    (do eqGuard .eql 22 px py (.agg #[.int .i64 a, .int .i64 b]) (.agg #[.int .i64 c, .int .i64 e]); binOp .eql 22 (.agg #[.int .i64 a, .int .i64 b]) (.agg #[.int .i64 c, .int .i64 e]) : Sem Value).run Try.prog w = .ok (.bool (decide (a = c ∧ b = e))) w :=
  (deepEq 22 6 (by decide) (by kernel_rfl) (by kernel_rfl) (xs := [.int .i64 a, .int .i64 b]) (ys := [.int .i64 c, .int .i64 e]) (by simp [Value.formed, Try.underlying22, cellsTwo']) (by simp [Value.formed, Try.underlying22, cellsTwo']) (lits_two 0 a b ha hb) (lits_two 0 c e hc he) (by
    simp) px py w).1
theorem addr_two (s c : Int) : (addrOf s c).2 = 0 ∨ (addrOf s c).2 = 1 := by unfold addrOf; split <;> simp
theorem addr_inj {a b c d : Int} (h1 : (addrOf a b).2 = 0) (h2 : (addrOf c d).2 = 0) : (addrOf a b).1 = (addrOf c d).1 ↔ (a = c ∧ b = d) := by
  unfold addrOf at *
  split at h1
  · simp at h1
  · split at h2
    · simp at h2
    · rename_i g1 g2
      rw [if_neg g1, if_neg g2]
      simp only
      omega
set_option maxRecDepth 100000 in
set_option maxHeartbeats 4000000 in
theorem addresses_walk (a0 a1 b0 b1 : Int) (ha : -9223372036854775808 ≤ a0 ∧ a0 ≤ 9223372036854775807) (ha' : -9223372036854775808 ≤ a1 ∧ a1 ≤ 9223372036854775807) (hb : -9223372036854775808 ≤ b0 ∧ b0 ≤ 9223372036854775807) (hb' : -9223372036854775808 ≤ b1 ∧ b1 ≤ 9223372036854775807) (w : World) :
    Calls Try.prog 3 #[.agg #[.int .i64 a0, .int .i64 a1], .agg #[.int .i64 b0, .int .i64 b1]] w fun e w' => e = .returned (.bool true) ∧ w.grownBy w' none := by
  have HA := hid ha
  have HA' := hid ha'
  have HB := hid hb
  have HB' := hid hb'
  have E1 := addr_two a0 a1
  have E2 := addr_two b0 b1
  have HI := hid (@addr_inj a0 a1 b0 b1)
  obtain ⟨x, e, hx⟩ : ∃ x e, addrOf a0 a1 = (x, e) := ⟨_, _, rfl⟩
  obtain ⟨y, f, hy⟩ : ∃ y f, addrOf b0 b1 = (y, f) := ⟨_, _, rfl⟩
  have HX := hid hx
  have HY := hid hy
  rw [hx] at E1
  rw [hy] at E2
  rw [hx, hy] at HI
  simp only at E1 E2
  obtain ⟨w1, hw1⟩ : ∃ x, x = (w.alloc (.cells #[.int .i64 a0, .int .i64 a1] 22)).alloc (.cells #[.int .i64 b0, .int .i64 b1] 22) := ⟨_, rfl⟩
  have HG := hid (show w.grownBy w1 none by rw [hw1]; exact grown_trans (World.grownBy_alloc _ _ _) (World.grownBy_alloc _ _ _))
  have Z0 := hid (show w1.heap[w.heap.size]? = some (.cells #[.int .i64 a0, .int .i64 a1] 22 (0, 0)) by rw [hw1, heap_past (by simp <;> omega), heap_at (by simp <;> omega)])
  have Z1 := hid (show w1.heap[w.heap.size + 1]? = some (.cells #[.int .i64 b0, .int .i64 b1] 22 (0, 0)) by rw [hw1, heap_at (by simp)])
  have HW := hid hw1
  clear hx hy ha ha' hb hb' hw1
  go_enter Try.func3, Try.ntmps3
  refine wp_seq_k fun K0 k0 => ?_
  have HK0 := hid k0
  clear k0
  go_wp2
  refine HK0.out _ _ ?_
  clear HK0
  rw [← HW.out]
  clear HW
  have c0 : w1.cell? ⟨w.heap.size, 0, none⟩ = some (.int .i64 a0) := by rw [cell_of_row _ _ _ _ _ _ Z0.out]; rfl
  have c1 : w1.cell? ⟨w.heap.size, 1, none⟩ = some (.int .i64 a1) := by rw [cell_of_row _ _ _ _ _ _ Z0.out]; rfl
  have c2 : w1.cell? ⟨w.heap.size + 1, 0, none⟩ = some (.int .i64 b0) := by rw [cell_of_row _ _ _ _ _ _ Z1.out]; rfl
  have c3 : w1.cell? ⟨w.heap.size + 1, 1, none⟩ = some (.int .i64 b1) := by rw [cell_of_row _ _ _ _ _ _ Z1.out]; rfl
  have y0 := block_lt_of_cell c0
  have y2 := block_lt_of_cell c2
  go_wp2_with fail
  refine (address_walk a0 a1 _).mono ?_
  rintro e1 V1 ⟨rfl, rfl⟩
  rw [HX.out]
  go_wp2_with fail
  refine (address_walk b0 b1 _).mono ?_
  rintro e1 V2 ⟨rfl, rfl⟩
  rw [HY.out]
  go_wp2_with fail
  refine (raddress_walk a0 a1 _).mono ?_
  rintro e1 V3 ⟨rfl, rfl⟩
  rw [HX.out]
  go_wp2_with fail
  refine (raddress_walk b0 b1 _).mono ?_
  rintro e1 V4 ⟨rfl, rfl⟩
  rw [HY.out]
  have HEQ := hid (two_eqb HA.out HA'.out HB.out HB'.out)
  have AW := hid (awake_walk V4)
  rcases E1 with rfl | rfl
  · rcases E2 with rfl | rfl
    · have hxy := HI.out rfl rfl
      by_cases hq : x = y
      · have hab := hxy.1 hq
        have t1 : (x == y) = true := by simpa using hq
        have HQ := hid (show ∀ px py W, (do eqGuard .eql 22 px py (.agg #[.int .i64 a0, .int .i64 a1]) (.agg #[.int .i64 b0, .int .i64 b1]); binOp .eql 22 (.agg #[.int .i64 a0, .int .i64 a1]) (.agg #[.int .i64 b0, .int .i64 b1]) : Sem Value).run Try.prog W = .ok (.bool true) W from fun px py W => by
          have h := HEQ.out px py W
          rw [decide_eq_true hab] at h
          exact h)
        clear hxy hab hq
        go_wp2_with (first
          | (refine wpList_binG rfl .eql 22 22 (.tmp 73) (.tmp 74) rfl rfl rfl (HQ.out _ _ _) ?_)
          | fail)
        refine AW.out.mono ?_
        rintro e5 V5 ⟨rfl, g5⟩
        go_wp2
        go_ret
        exact ⟨rfl, grown_trans HG.out g5⟩
      · have hab : ¬ (a0 = b0 ∧ a1 = b1) := fun h => hq (hxy.2 h)
        have t1 : (x == y) = false := by simpa using hq
        have HQ := hid (show ∀ px py W, (do eqGuard .eql 22 px py (.agg #[.int .i64 a0, .int .i64 a1]) (.agg #[.int .i64 b0, .int .i64 b1]); binOp .eql 22 (.agg #[.int .i64 a0, .int .i64 a1]) (.agg #[.int .i64 b0, .int .i64 b1]) : Sem Value).run Try.prog W = .ok (.bool false) W from fun px py W => by
          have h := HEQ.out px py W
          rw [decide_eq_false hab] at h
          exact h)
        clear hxy hab hq
        go_wp2_with (first
          | (refine wpList_binG rfl .eql 22 22 (.tmp 73) (.tmp 74) rfl rfl rfl (HQ.out _ _ _) ?_)
          | fail)
        refine AW.out.mono ?_
        rintro e5 V5 ⟨rfl, g5⟩
        go_wp2
        go_ret
        exact ⟨rfl, grown_trans HG.out g5⟩
    · go_wp2_with fail
      refine AW.out.mono ?_
      rintro e5 V5 ⟨rfl, g5⟩
      go_wp2
      go_ret
      exact ⟨rfl, grown_trans HG.out g5⟩
  · go_wp2_with fail
    refine AW.out.mono ?_
    rintro e5 V5 ⟨rfl, g5⟩
    go_wp2
    go_ret
    exact ⟨rfl, grown_trans HG.out g5⟩
end Go.Proofs.Yteakoleceoclkaa
