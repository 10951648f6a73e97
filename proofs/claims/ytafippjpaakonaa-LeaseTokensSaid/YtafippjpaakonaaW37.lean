/- Leases: the law LeaseTokens. (printed by gen_w37.py) -/
import Derived.Test.YtafippjpaakonaaW35
namespace Go.Proofs.Ytafippjpaakonaa
open Go.RowKit
set_option linter.unusedSimpArgs false
set_option linter.unusedVariables false

set_option maxRecDepth 100000 in
set_option maxHeartbeats 8000000 in
theorem tokens_walk (l : List Ac) (s : Value) (w : World) (hA : RdA w s l) : Calls Try.prog 6 #[s] w fun e w' => e = .returned (.bool true) ∧ w.grownBy w' none := by
  obtain ⟨ao, cap, rfl, hc1, hc2⟩ := Sl.shape hA
  have HA := hid hA
  clear hA
  go_enter Try.func6, Try.ntmps6
  go_wp2_with fail
  refine (new_call (World.grownBy.refl w none)).mono ?_
  rintro e w1 ⟨rfl, M1⟩
  obtain ⟨BT, hB⟩ : ∃ B, B = w1.heap.size := ⟨_, rfl⟩
  have hBw : w.heap.size ≤ BT := by rw [hB]; exact M1.out.size
  obtain ⟨W, hW⟩ : ∃ W, W = w1.alloc (.cells #[.int .i64 1, .slice none 0 0] 24) := ⟨_, rfl⟩
  have F0 := hid (show TF w W BT ⟨1, []⟩ (.slice none 0 0) from by
    rw [hW, hB]
    exact ⟨grown_trans M1.out (World.grownBy_alloc w1 _ none), heap_at rfl, Sl.nil _ _⟩)
  have HWW := hid (And.intro hW hB)
  clear hW hB
  go_wp2_with fail
  rw [← HWW.out.1, ← HWW.out.2]
  go_loopw [4, 5] (fun la i wr => ∃ (k : Nat) (last : Int) (t : Tb) (aq : Option Addr) (m ct : Nat), k ≤ l.length ∧ k ≤ 40 ∧ la = .int .i64 last ∧ i = .int .i64 k ∧ Hid (t.ok = true ∧ last < t.next) ∧ TF w wr BT t (.slice aq m ct)) (fun la i _ => l.length - (intOf i).toNat)
  case atStart => exact ⟨0, 0, ⟨1, []⟩, none, 0, 0, by omega, by omega, rfl, rfl, hid ⟨ok_one, by decide⟩, F0.out⟩
  case round =>
    obtain ⟨k, last, t, aq, m, ct, hk, hk40, rfl, rfl, HT, hf⟩ := hrel
    have FK := hid hf
    clear hf
    have pT_0 : wr.cell? ⟨BT, 0, none⟩ = some (.int .i64 t.next) := by rw [cell_of_row _ _ _ _ _ _ FK.out.bt]; rfl
    have pT_1 : wr.cell? ⟨BT, 1, none⟩ = some (.slice aq m ct) := by rw [cell_of_row _ _ _ _ _ _ FK.out.bt]; rfl
    have i1 : (0 : Int) ≤ (k : Int) := by omega
    by_cases hlt : k < l.length
    · have t1 : decide ((k : Int) < (l.length : Int)) = true := by simpa using hlt
      by_cases h40 : k < 40
      · have t2 : decide ((k : Int) < 40) = true := by simp; omega
        obtain ⟨b, off, rfl, hl0, hd⟩ := RdA.six (Sl.kn HA.out FK.out.g) k hlt
        clear hl0
        have i2 : (k : Int) < (l.length : Int) := by omega
        generalize l.getD k Ac.zero = a at *
        obtain ⟨kd, n, ho, tk, now, d⟩ := a
        have d0 : wr.cell? ⟨b, off + k * 6, none⟩ = some (.int .i64 kd) := by simpa using hd 0 _ rfl
        have d1 : wr.cell? ⟨b, off + k * 6 + 1, none⟩ = some (.int .i64 n) := hd 1 _ rfl
        have d2 : wr.cell? ⟨b, off + k * 6 + 2, none⟩ = some (.int .i64 ho) := hd 2 _ rfl
        have d3 : wr.cell? ⟨b, off + k * 6 + 3, none⟩ = some (.int .i64 tk) := hd 3 _ rfl
        have d4 : wr.cell? ⟨b, off + k * 6 + 4, none⟩ = some (.int .i64 now) := hd 4 _ rfl
        have d5 : wr.cell? ⟨b, off + k * 6 + 5, none⟩ = some (.int .i64 d) := hd 5 _ rfl
        clear hd
        obtain ⟨next, ls⟩ := t
        simp only at pT_0
        have hls : ls.length ≤ 1000000 := Nat.le_trans (ok_len HT.out.1).1 (by decide)
        have z1 := block_lt_of_cell d0
        have HG := hid FK.out.g
        have HRt := hid (show Rd wr (.slice aq m ct) ls from FK.out.rd)
        have HBT := hid (show wr.heap[BT]? = some (.cells #[.int .i64 next, .slice aq m ct] 24 (0, 0)) from FK.out.bt)
        have yT := block_lt_of_cell pT_0
        obtain ⟨B0, hB0⟩ : ∃ x, x = wr.heap.size := ⟨_, rfl⟩
        obtain ⟨W1, hW⟩ : ∃ x, x = (wr.alloc (.cells #[.int .i64 kd, .int .i64 n, .int .i64 ho, .int .i64 tk, .int .i64 now, .int .i64 d] 35)) := ⟨_, rfl⟩
        have A1 := hid (show wr.grownBy W1 none from by rw [hW]; (repeat (first | exact World.grownBy.refl _ _ | refine grown_trans ?_ (World.grownBy_alloc _ _ _))))
        have HB0 := hid (show W1.heap[B0]? = some (.cells #[.int .i64 kd, .int .i64 n, .int .i64 ho, .int .i64 tk, .int .i64 now, .int .i64 d] 35 (0, 0)) from by rw [hW, hB0]; rw [heap_at (by simp <;> omega)])
        have HW1 := hid (And.intro hW (And.intro hB0 True.intro))
        clear hW hB0
        by_cases h0 : bits .and .i64 kd 3 = 0
        · have u0 : (bits .and .i64 kd 3 == 0) = true := by rw [h0]; rfl
          obtain ⟨⟨⟨nx, L⟩, tok, er⟩, hq⟩ : ∃ q, acq cds ⟨next, ls⟩ n ho now d = q := ⟨_, rfl⟩
          have hok : er = 0 → (⟨nx, L⟩ : Tb).ok = true ∧ last < tok ∧ tok < nx := by
            intro e
            subst e
            have e1 := acq_okk (t := ⟨next, ls⟩) (n := n) (h := ho) (now := now) (d := d) (by rw [hq])
            have e2 := tok_next (t := ⟨next, ls⟩) (n := n) (h := ho) (now := now) (d := d) HT.out.2 (by rw [hq])
            rw [hq] at e1 e2
            exact ⟨e1, e2⟩
          have HOK := hid hok
          have HQ := hid hq
          clear hq h0 hok
          go_wp2_with fail
          try rw [← HW1.out.1]
          try rw [← HW1.out.2.1]
          clear pT_0 pT_1 yT d0 d1 d2 d3 d4 d5 z1
          replace HBT := hid (row_of A1.out HBT.out (by simp))
          replace HRt := hid (Sl.kn HRt.out A1.out)
          replace HG := hid (grown_trans HG.out A1.out)
          refine (acqP_call (t := ⟨next, ls⟩) HQ.out HRt.out (World.grownBy.refl _ _) hls).mono ?_
          rintro e w2 ⟨ao2, k2, cap2, rfl, M2⟩
          have G2 := hid (show W1.grownBy w2 none from M2.out.2)
          replace HBT := hid (row_of G2.out HBT.out (by simp))
          replace HB0 := hid (row_of G2.out HB0.out (by simp))
          replace HRt := hid (Sl.kn HRt.out G2.out)
          replace HG := hid (grown_trans HG.out G2.out)
          have HRx := hid M2.out.1
          have pT_0 : w2.cell? ⟨BT, 0, none⟩ = some (.int .i64 next) := by rw [cell_of_row _ _ _ _ _ _ HBT.out]; rfl
          have pT_1 : w2.cell? ⟨BT, 1, none⟩ = some (.slice aq m ct) := by rw [cell_of_row _ _ _ _ _ _ HBT.out]; rfl
          have yT := block_lt_of_cell pT_0
          have q0 : w2.frozen? ⟨BT, 0, none⟩ = false := frozen_of_row _ _ _ _ _ HBT.out
          have q1 : w2.frozen? ⟨BT, 1, none⟩ = false := frozen_of_row _ _ _ _ _ HBT.out
          have TK := hid (show TF w w2 BT ⟨next, ls⟩ (.slice aq m ct) from ⟨HG.out, HBT.out, HRt.out⟩)
          by_cases he : er = 0
          · have hok := HOK.out he
            subst he
            have hle : decide (tok ≤ last) = false := by simp; omega
            have HOO := hid hok
            clear hok
            go_wp2
            go_roundw
            case rel => exact ⟨k + 1, tok, ⟨nx, L⟩, ao2, k2, cap2, by omega, by omega, rfl, by go_num, hid ⟨HOO.out.1, HOO.out.2.2⟩, TK.out.takeA (r := ⟨nx, L⟩) M2.out.1 hBw⟩
            case measure => simp [intOf]; omega
          · have he2 : (er == 0) = false := by simpa using he
            clear he
            go_wp2
            go_roundw
            case rel => exact ⟨k + 1, last, ⟨next, ls⟩, aq, m, ct, by omega, by omega, rfl, by go_num, hid HT.out, TK.out.keepA⟩
            case measure => simp [intOf]; omega
        by_cases h1 : bits .and .i64 kd 3 = 1
        · have u0 : (bits .and .i64 kd 3 == 0) = false := by rw [h1]; rfl
          have u1 : (bits .and .i64 kd 3 == 1) = true := by rw [h1]; rfl
          obtain ⟨⟨⟨nx, L⟩, er⟩, hq⟩ : ∃ q, ren cds ⟨next, ls⟩ n ho tk now d = q := ⟨_, rfl⟩
          have hok : er = 0 → (⟨nx, L⟩ : Tb).ok = true ∧ last < nx := by
            intro e
            subst e
            have e1 := ren_okk (t := ⟨next, ls⟩) (n := n) (h := ho) (k := tk) (now := now) (d := d) (by rw [hq])
            have e2 := ren_next (t := ⟨next, ls⟩) (n := n) (h := ho) (k := tk) (now := now) (d := d) (by rw [hq])
            rw [hq] at e1 e2
            exact ⟨e1, by have := HT.out.2; simp only at e2 this; omega⟩
          have HOK := hid hok
          have HQ := hid hq
          clear hq h1 hok
          go_wp2_with fail
          try rw [← HW1.out.1]
          try rw [← HW1.out.2.1]
          clear pT_0 pT_1 yT d0 d1 d2 d3 d4 d5 z1
          replace HBT := hid (row_of A1.out HBT.out (by simp))
          replace HRt := hid (Sl.kn HRt.out A1.out)
          replace HG := hid (grown_trans HG.out A1.out)
          refine (renP_call (t := ⟨next, ls⟩) HQ.out HRt.out (World.grownBy.refl _ _) hls).mono ?_
          rintro e w2 ⟨ao2, k2, cap2, rfl, M2⟩
          have G2 := hid (show W1.grownBy w2 none from M2.out.2)
          replace HBT := hid (row_of G2.out HBT.out (by simp))
          replace HB0 := hid (row_of G2.out HB0.out (by simp))
          replace HRt := hid (Sl.kn HRt.out G2.out)
          replace HG := hid (grown_trans HG.out G2.out)
          have HRx := hid M2.out.1
          have pT_0 : w2.cell? ⟨BT, 0, none⟩ = some (.int .i64 next) := by rw [cell_of_row _ _ _ _ _ _ HBT.out]; rfl
          have pT_1 : w2.cell? ⟨BT, 1, none⟩ = some (.slice aq m ct) := by rw [cell_of_row _ _ _ _ _ _ HBT.out]; rfl
          have yT := block_lt_of_cell pT_0
          have q0 : w2.frozen? ⟨BT, 0, none⟩ = false := frozen_of_row _ _ _ _ _ HBT.out
          have q1 : w2.frozen? ⟨BT, 1, none⟩ = false := frozen_of_row _ _ _ _ _ HBT.out
          have TK := hid (show TF w w2 BT ⟨next, ls⟩ (.slice aq m ct) from ⟨HG.out, HBT.out, HRt.out⟩)
          by_cases he : er = 0
          · have hok := hid (HOK.out he)
            subst he
            go_wp2
            go_roundw
            case rel => exact ⟨k + 1, last, ⟨nx, L⟩, ao2, k2, cap2, by omega, by omega, rfl, by go_num, hid hok.out, TK.out.takeA (r := ⟨nx, L⟩) M2.out.1 hBw⟩
            case measure => simp [intOf]; omega
          · have he2 : (er == 0) = false := by simpa using he
            clear he
            go_wp2
            go_roundw
            case rel => exact ⟨k + 1, last, ⟨next, ls⟩, aq, m, ct, by omega, by omega, rfl, by go_num, hid HT.out, TK.out.keepA⟩
            case measure => simp [intOf]; omega
        by_cases h2 : bits .and .i64 kd 3 = 2
        · have u0 : (bits .and .i64 kd 3 == 0) = false := by rw [h2]; rfl
          have u1 : (bits .and .i64 kd 3 == 1) = false := by rw [h2]; rfl
          have u2 : (bits .and .i64 kd 3 == 2) = true := by rw [h2]; rfl
          obtain ⟨⟨⟨nx, L⟩, er⟩, hq⟩ : ∃ q, rel cds ⟨next, ls⟩ n ho tk = q := ⟨_, rfl⟩
          have hok : er = 0 → (⟨nx, L⟩ : Tb).ok = true ∧ last < nx := by
            intro e
            subst e
            have e1 := rel_okk (t := ⟨next, ls⟩) (n := n) (h := ho) (k := tk) (by rw [hq])
            have e2 := rel_next (t := ⟨next, ls⟩) (n := n) (h := ho) (k := tk) (by rw [hq])
            rw [hq] at e1 e2
            exact ⟨e1, by have := HT.out.2; simp only at e2 this; omega⟩
          have HOK := hid hok
          have HQ := hid hq
          clear hq h2 hok
          go_wp2_with fail
          try rw [← HW1.out.1]
          try rw [← HW1.out.2.1]
          clear pT_0 pT_1 yT d0 d1 d2 d3 d4 d5 z1
          replace HBT := hid (row_of A1.out HBT.out (by simp))
          replace HRt := hid (Sl.kn HRt.out A1.out)
          replace HG := hid (grown_trans HG.out A1.out)
          refine (relP_call (t := ⟨next, ls⟩) HQ.out HRt.out (World.grownBy.refl _ _) hls).mono ?_
          rintro e w2 ⟨ao2, k2, cap2, rfl, M2⟩
          have G2 := hid (show W1.grownBy w2 none from M2.out.2)
          replace HBT := hid (row_of G2.out HBT.out (by simp))
          replace HB0 := hid (row_of G2.out HB0.out (by simp))
          replace HRt := hid (Sl.kn HRt.out G2.out)
          replace HG := hid (grown_trans HG.out G2.out)
          have HRx := hid M2.out.1
          have pT_0 : w2.cell? ⟨BT, 0, none⟩ = some (.int .i64 next) := by rw [cell_of_row _ _ _ _ _ _ HBT.out]; rfl
          have pT_1 : w2.cell? ⟨BT, 1, none⟩ = some (.slice aq m ct) := by rw [cell_of_row _ _ _ _ _ _ HBT.out]; rfl
          have yT := block_lt_of_cell pT_0
          have q0 : w2.frozen? ⟨BT, 0, none⟩ = false := frozen_of_row _ _ _ _ _ HBT.out
          have q1 : w2.frozen? ⟨BT, 1, none⟩ = false := frozen_of_row _ _ _ _ _ HBT.out
          have TK := hid (show TF w w2 BT ⟨next, ls⟩ (.slice aq m ct) from ⟨HG.out, HBT.out, HRt.out⟩)
          by_cases he : er = 0
          · have hok := hid (HOK.out he)
            subst he
            go_wp2
            go_roundw
            case rel => exact ⟨k + 1, last, ⟨nx, L⟩, ao2, k2, cap2, by omega, by omega, rfl, by go_num, hid hok.out, TK.out.takeA (r := ⟨nx, L⟩) M2.out.1 hBw⟩
            case measure => simp [intOf]; omega
          · have he2 : (er == 0) = false := by simpa using he
            clear he
            go_wp2
            go_roundw
            case rel => exact ⟨k + 1, last, ⟨next, ls⟩, aq, m, ct, by omega, by omega, rfl, by go_num, hid HT.out, TK.out.keepA⟩
            case measure => simp [intOf]; omega
        by_cases h3 : bits .and .i64 kd 3 = 3
        · have u0 : (bits .and .i64 kd 3 == 0) = false := by rw [h3]; rfl
          have u1 : (bits .and .i64 kd 3 == 1) = false := by rw [h3]; rfl
          have u2 : (bits .and .i64 kd 3 == 2) = false := by rw [h3]; rfl
          have u3 : (bits .and .i64 kd 3 == 3) = true := by rw [h3]; rfl
          obtain ⟨⟨nx, L⟩, hq⟩ : ∃ q, expd ⟨next, ls⟩ now = q := ⟨_, rfl⟩
          have hok : (⟨nx, L⟩ : Tb).ok = true ∧ last < nx := by have e1 := exp_okk HT.out.1 now; have e2 := exp_next HT.out.1 now; rw [hq] at e1 e2; exact ⟨e1, by have := HT.out.2; simp only at e2 this; omega⟩
          have HOK := hid hok
          have HQ := hid hq
          clear hq h3 hok
          go_wp2_with fail
          try rw [← HW1.out.1]
          try rw [← HW1.out.2.1]
          clear pT_0 pT_1 yT d0 d1 d2 d3 d4 d5 z1
          replace HBT := hid (row_of A1.out HBT.out (by simp))
          replace HRt := hid (Sl.kn HRt.out A1.out)
          replace HG := hid (grown_trans HG.out A1.out)
          refine (expP_call (t := ⟨next, ls⟩) HQ.out HRt.out (World.grownBy.refl _ _) hls).mono ?_
          rintro e w2 ⟨ao2, k2, cap2, rfl, M2⟩
          have G2 := hid (show W1.grownBy w2 none from M2.out.2)
          replace HBT := hid (row_of G2.out HBT.out (by simp))
          replace HB0 := hid (row_of G2.out HB0.out (by simp))
          replace HRt := hid (Sl.kn HRt.out G2.out)
          replace HG := hid (grown_trans HG.out G2.out)
          have pT_0 : w2.cell? ⟨BT, 0, none⟩ = some (.int .i64 next) := by rw [cell_of_row _ _ _ _ _ _ HBT.out]; rfl
          have pT_1 : w2.cell? ⟨BT, 1, none⟩ = some (.slice aq m ct) := by rw [cell_of_row _ _ _ _ _ _ HBT.out]; rfl
          have yT := block_lt_of_cell pT_0
          have q0 : w2.frozen? ⟨BT, 0, none⟩ = false := frozen_of_row _ _ _ _ _ HBT.out
          have q1 : w2.frozen? ⟨BT, 1, none⟩ = false := frozen_of_row _ _ _ _ _ HBT.out
          have TK := hid (show TF w w2 BT ⟨next, ls⟩ (.slice aq m ct) from ⟨HG.out, HBT.out, HRt.out⟩)
          go_wp2
          go_roundw
          case rel => exact ⟨k + 1, last, ⟨nx, L⟩, ao2, k2, cap2, by omega, by omega, rfl, by go_num, hid HOK.out, TK.out.take (r := ⟨nx, L⟩) M2.out.1 hBw⟩
          case measure => simp [intOf]; omega
        have := and3 kd
        omega
      · have t2 : decide ((k : Int) < 40) = false := by simp; omega
        have HG := hid FK.out.g
        go_wp2_with fail
        refine (awk_call (World.grownBy.refl _ _)).mono ?_
        rintro e w9 ⟨rfl, M9⟩
        go_wp2
        go_ret
        exact ⟨rfl, grown_trans HG.out M9.out⟩
    · have t1 : decide ((k : Int) < (l.length : Int)) = false := by simp; omega
      have HG := hid FK.out.g
      go_wp2_with fail
      refine (awk_call (World.grownBy.refl _ _)).mono ?_
      rintro e w9 ⟨rfl, M9⟩
      go_wp2
      go_ret
      exact ⟨rfl, grown_trans HG.out M9.out⟩
end Go.Proofs.Ytafippjpaakonaa
