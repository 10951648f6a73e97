/- Key trees: Valid of the reference. -/
import Derived.Test.YteakoleceoclkaaPP
import Derived.Test.YteakoleceoclkaaQ4
namespace Go.Proofs.Yteakoleceoclkaa
open Go.RowKit Go.Shelf
set_option linter.unusedSimpArgs false
set_option linter.unusedVariables false
attribute [local go_sem] Oper.semAt_some

theorem stp_def (c : Int) (n : Nd) : stp c n = if okN n = true ∧ ¬ lo n < c then some (hi n) else none := by
  unfold stp span
  by_cases ho : okN n = true
  · rw [if_pos ho]
    have h1 : lo n < hi n := by
      have hq : (0 : Int) < 2 ^ (34 - n.d).toNat := Int.pow_pos (by decide)
      unfold lo hi
      rw [Int.add_mul, Int.one_mul]
      omega
    rw [if_neg (fun e => by rw [Prod.mk.injEq] at e; omega)]
    by_cases h2 : lo n < c
    · rw [if_pos h2, if_neg (fun h => h.2 h2)]
    · rw [if_neg h2, if_pos ⟨ho, h2⟩]
  · rw [if_neg ho, if_pos rfl, if_neg (fun h => ho h.1)]
theorem vld_stop {l : List Nd} {k : Nat} {c : Int} (hk : k < l.length) (h : run 0 (l.take k) = some c) (hs : stp c l[k] = none) : vld l = false := by
  have h1 : run 0 (l.take (k + 1)) = none := by rw [List.take_succ_eq_append_getElem hk, run_snoc, h]; exact hs
  have h2 : run 0 l = none := by
    conv => lhs; rw [← List.take_append_drop (k + 1) l]
    exact run_none h1
  unfold vld
  rw [h2]
  simp
theorem run_next {l : List Nd} {k : Nat} {c d : Int} (hk : k < l.length) (h : run 0 (l.take k) = some c) (hs : stp c l[k] = some d) : run 0 (l.take (k + 1)) = some d := by
  rw [List.take_succ_eq_append_getElem hk, run_snoc, h]; exact hs
set_option maxRecDepth 100000 in
set_option maxHeartbeats 4000000 in
theorem rvalid_walk (l : List NdK) (s : Value) (w : World) (hR : RdL w s l) :
    Calls Try.prog 33 #[.agg #[s]] w fun e w' => e = .returned (.bool (vld (l.map (·.1)))) ∧ w.grownBy w' none := by
  obtain ⟨ao, cap, rfl, p1, p2⟩ := hR.shape
  have HR := hid hR
  obtain ⟨vl, hvl⟩ : ∃ v, v = vld (l.map (·.1)) := ⟨_, rfl⟩
  rw [← hvl]
  have HV := hid hvl
  obtain ⟨m, hm⟩ : ∃ m, m = l.length := ⟨_, rfl⟩
  have hm0 : m ≤ 1099511627776 := by rw [hm]; exact hR.2.2
  rw [← hm] at HR p1 ⊢
  have HM := hid hm
  obtain ⟨w1, hw1⟩ : ∃ x, x = w.alloc (.cells #[.slice ao m cap] 34) := ⟨_, rfl⟩
  have HG1 := hid (show w.grownBy w1 none by rw [hw1]; exact World.grownBy_alloc _ _ _)
  have c0 : w1.cell? ⟨w.heap.size, 0, none⟩ = some (.slice ao m cap) := by rw [hw1, cell_of_row _ _ _ _ _ _ (World.alloc_heap_new w _)]; rfl
  have y0 := block_lt_of_cell c0
  have C0 := hid c0
  have HG0 := hid (World.grownBy.refl w1 none)
  have HRUN := hid (show run 0 ((l.map (·.1)).take 0) = some 0 from rfl)
  clear hR hvl hm
  go_enter Try.func33, Try.ntmps33
  refine wp_seq_k fun K0 k0 => ?_
  have HK0 := hid k0
  clear k0
  go_wp2
  rw [← hw1]
  refine HK0.out _ _ ?_
  clear HK0 hw1
  by_cases h1 : 32768 < m
  · have t1 : decide ((32768 : Int) < (m : Int)) = true := by simp; omega
    have HZ := hid (show vl = false by rw [HV.out]; unfold vld; rw [List.length_map, ← HM.out]; simp; omega)
    clear h1
    go_wp2
    go_ret
    exact ⟨by rw [HZ.out]; rfl, HG1.out⟩
  have t1 : decide ((32768 : Int) < (m : Int)) = false := by simp; omega
  have HL3 := hid (show m ≤ 32768 by omega)
  clear h1
  go_wp2
  clear t1
  go_loopw [3, 4] (fun f i wr => ∃ (k : Nat) (c : Int), k ≤ m ∧ f = .int .i64 c ∧ i = .int .i64 k ∧ Hid (w1.grownBy wr none) ∧ Hid (run 0 ((l.map (·.1)).take k) = some c)) (fun _ i _ => (m - intOf i).toNat)
  case atStart => exact ⟨0, 0, by omega, rfl, rfl, HG0, HRUN⟩
  case round =>
    clear HG0 HRUN c0 y0
    obtain ⟨k, c, hk, rfl, rfl, HG, HRN⟩ := hrel
    have c0 := HG.out.cell C0.out (by simp)
    have y0 := block_lt_of_cell c0
    by_cases hlt : k < m
    · have hkl : k < (l.map (·.1)).length := by rw [List.length_map, ← HM.out]; exact hlt
      have hsr := (HR.out.kn HG1.out).kn HG.out
      obtain ⟨b, off, rfl, hrg⟩ := hsr.1.range (i := k) hkl
      have HRG := hid hrg
      have HNK := hid (hsr.1.2 _ (List.getElem_mem hkl))
      have HS1 := hid (show stp c (l.map (·.1))[k] = none → vl = false from fun h => by rw [HV.out]; exact vld_stop hkl HRN.out h)
      have HS2 := hid (show ∀ d, stp c (l.map (·.1))[k] = some d → run 0 ((l.map (·.1)).take (k + 1)) = some d from fun d h => run_next hkl HRN.out h)
      rw [stp_def] at HS1 HS2
      generalize (l.map (·.1))[k] = x at *
      have TN := hid (tyN x HNK.out.1.1)
      have NL := hid (ncells_len x HNK.out.1.1)
      obtain ⟨C, hC⟩ : ∃ C, C = ncells x := ⟨_, rfl⟩
      have HC := hid hC
      have i0 : (0 : Int) ≤ (k : Int) := by omega
      have i1 : (k : Int) < (m : Int) := by omega
      clear hsr hrg hkl hC
      refine wp_seq_k fun Ka ka => ?_
      have HKa := hid ka
      clear ka
      refine wp_seq_k fun Kb kb => ?_
      have HKb := hid kb
      clear kb
      go_wp2
      refine HKb.out _ _ ?_
      clear HKb
      go_wp2
      refine HKa.out _ _ ?_
      clear HKa
      refine wp_seq_k fun Kc kc => ?_
      have HKc := hid kc
      clear kc
      refine wp_block ?_
      refine wp_seq_k fun Kd kd => ?_
      have HKd := hid kd
      clear kd
      go_wp2_with (first
        | (refine wpList_loadAt rfl 91 (.tmp 20) rfl rfl TN.out HRG.out ?_)
        | (refine wpList_storeTYg rfl 91 (.tmp 5) (.tmp 21) rfl rfl rfl TN.out (heap_at rfl) (by rw [NL.out]; rfl) ?_; intro W2 g2 h2; have G2 := hid (grown_newR (World.grownBy_alloc wr _ none) g2 (Nat.le_refl _)); have H2 := hid h2; clear g2 h2)
        | fail)
      refine HKd.out _ _ ?_
      clear HKd
      go_frame
      refine wp_seq_k fun Ke ke => ?_
      have HKe := hid ke
      clear ke
      refine wp_seq_k fun Kf kf => ?_
      have HKf := hid kf
      clear kf
      obtain ⟨c3, c4, y3⟩ := ncell0 H2.out
      obtain ⟨d, p, kk⟩ := x
      simp only at c3 c4 HNK
      have hd := HNK.out.2.1
      have hp := HNK.out.2.2
      simp only at hd hp
      have hoi := @okN_iff ⟨d, p, kk⟩
      simp only at hoi
      have HOI := hid hoi
      have P2 : ∀ m : Nat, m < 35 → wrap64 ((2 : Int) ^ m) = 2 ^ m := by decide +kernel
      clear hoi
      by_cases h1 : d < 0
      · have t1 : decide (d < 0) = true := by simp; omega
        have HE := hid (HS1.out (by rw [if_neg (fun h => by have := HOI.out.1 h.1; omega)]))
        clear HS1 HS2 P2 h1
        go_quiet ((exact Calls.quiet_of_same (size_walk 0 (by decide) _)))
        refine HKf.out _ _ ?_
        clear HKe HKf HKc
        go_wp2
        go_ret
        exact ⟨by rw [HE.out]; rfl, grown_trans HG1.out (grown_trans HG.out (grown_trans G2.out (grown_drewN _ _)))⟩
      by_cases h2 : 34 < d
      · have t1 : decide (d < 0) = false := by simp; omega
        have t2 : decide (34 < d) = true := by simp; omega
        have HE := hid (HS1.out (by rw [if_neg (fun h => by have := HOI.out.1 h.1; omega)]))
        clear HS1 HS2 P2 h1 h2
        go_quiet ((exact Calls.quiet_of_same (size_walk 0 (by decide) _)))
        refine HKf.out _ _ ?_
        clear HKe HKf HKc
        go_wp2
        go_ret
        exact ⟨by rw [HE.out]; rfl, grown_trans HG1.out (grown_trans HG.out (grown_trans G2.out (grown_drewN _ _)))⟩
      by_cases h3 : p < 0
      · have t1 : decide (d < 0) = false := by simp; omega
        have t2 : decide (34 < d) = false := by simp; omega
        have t3 : decide (p < 0) = true := by simp; omega
        have HE := hid (HS1.out (by rw [if_neg (fun h => by have := HOI.out.1 h.1; omega)]))
        clear HS1 HS2 P2 h1 h2 h3
        go_quiet ((exact Calls.quiet_of_same (size_walk 0 (by decide) _)))
        refine HKf.out _ _ ?_
        clear HKe HKf HKc
        go_wp2
        go_ret
        exact ⟨by rw [HE.out]; rfl, grown_trans HG1.out (grown_trans HG.out (grown_trans G2.out (grown_drewN _ _)))⟩
      obtain ⟨e, rfl⟩ : ∃ e : Nat, d = e := ⟨d.toNat, by omega⟩
      have he : e ≤ 34 := by omega
      have t1 : decide ((e : Int) < 0) = false := by simp
      have t2 : decide ((34 : Int) < (e : Int)) = false := by simp; omega
      have t3 : decide (p < 0) = false := by simp; omega
      have i2 : (0 : Int) ≤ (e : Int) := by omega
      have i3 : (e : Int) ≤ 34 := by omega
      have hp2 := P2 e (by omega)
      have HSZ := hid (fun w => size_walk e he w)
      have j1 : (e : Int) < 64 := by omega
      by_cases h4 : (2 : Int) ^ e ≤ p
      · have t4 : decide (wrap64 ((2 : Int) ^ e) ≤ p) = true := by rw [hp2]; simp [h4]
        have HE := hid (HS1.out (by rw [if_neg (fun h => by have := HOI.out.1 h.1; rw [Int.toNat_natCast] at this; omega)]))
        clear HS1 HS2 P2 hp2 h1 h2 h3 h4
        go_quiet ((exact Calls.quiet_of_same (HSZ.out _)))
        refine HKf.out _ _ ?_
        clear HKe HKf HKc
        go_wp2
        go_ret
        exact ⟨by rw [HE.out]; rfl, grown_trans HG1.out (grown_trans HG.out (grown_trans G2.out (grown_drewN _ _)))⟩
      have t4 : decide (wrap64 ((2 : Int) ^ e) ≤ p) = false := by rw [hp2]; simp; omega
      have i4 : (0 : Int) ≤ p := by omega
      have HOK := hid (HOI.out.2 ⟨i2, i3, i4, by rw [Int.toNat_natCast]; omega⟩)
      have HLO := hid (show lo ⟨(e : Int), p, kk⟩ = p * 2 ^ (34 - e) by unfold lo; simp only; rw [show (34 - (e : Int)).toNat = 34 - e by omega])
      have HHI := hid (show hi ⟨(e : Int), p, kk⟩ = (p + 1) * 2 ^ (34 - e) by unfold hi; simp only; rw [show (34 - (e : Int)).toNat = 34 - e by omega])
      have hb1 : p * 2 ^ (34 - e) ≤ 17179869184 ∧ 0 ≤ p * 2 ^ (34 - e) ∧ (p + 1) * 2 ^ (34 - e) ≤ 17179869184 ∧ 0 ≤ (p + 1) * 2 ^ (34 - e) ∧ p ≤ 17179869184 := by
        have hq : (0 : Int) < 2 ^ (34 - e) := Int.pow_pos (by decide)
        have h5 : (p + 1) * 2 ^ (34 - e) ≤ 2 ^ e * 2 ^ (34 - e) := Int.mul_le_mul_of_nonneg_right (by omega) (Int.le_of_lt hq)
        rw [← Int.pow_add, show e + (34 - e) = 34 by omega] at h5
        have h6 : 0 ≤ p * 2 ^ (34 - e) := Int.mul_nonneg i4 (Int.le_of_lt hq)
        have h7 : (p + 1) * 2 ^ (34 - e) = p * 2 ^ (34 - e) + 2 ^ (34 - e) := by rw [Int.add_mul, Int.one_mul]
        have h8 : (2 : Int) ^ e ≤ 2 ^ 34 := by exact_mod_cast Nat.pow_le_pow_right (n := 2) (by decide) he
        omega
      have w1 : IntKind.i64.wrap (p + 1) = p + 1 := by rw [IntKind.wrap_i64]; omega
      have w2 : IntKind.i64.wrap (p * 2 ^ (34 - e)) = p * 2 ^ (34 - e) := by rw [IntKind.wrap_i64]; omega
      have w3 : IntKind.i64.wrap ((p + 1) * 2 ^ (34 - e)) = (p + 1) * 2 ^ (34 - e) := by rw [IntKind.wrap_i64]; omega
      obtain ⟨q, hq⟩ : ∃ q : Int, q = 2 ^ (34 - e) := ⟨_, rfl⟩
      rw [← hq] at HSZ HLO HHI w2 w3
      have w4 : wrap64 (p * q) = p * q := by unfold wrap64; rw [hq]; omega
      have W3E := hid (show Value.int .i64 (wrap64 (wrap64 (p + 1) * q)) = .int .i64 ((p + 1) * q) by rw [show wrap64 (p + 1) = p + 1 by unfold wrap64; omega, show wrap64 ((p + 1) * q) = (p + 1) * q by unfold wrap64; rw [hq]; omega])
      by_cases h5 : p * q < c
      · have t5 : decide (wrap64 (p * q) < c) = true := by rw [w4]; simp [h5]
        have HE := hid (HS1.out (by rw [if_neg (fun h => by have := h.2; rw [HLO.out] at this; omega)]))
        clear HS1 HS2 P2 hp2 h1 h2 h3 h4 h5 hb1 w1 w2 w3 w4 hq
        go_quiet ((exact Calls.quiet_of_same (HSZ.out _)))
        refine HKf.out _ _ ?_
        clear HKe HKf HKc
        go_wp2
        go_ret
        exact ⟨by rw [HE.out]; rfl, grown_trans HG1.out (grown_trans HG.out (grown_trans G2.out (grown_drewN _ _)))⟩
      · have t5 : decide (wrap64 (p * q) < c) = false := by rw [w4]; simp; omega
        have HE := hid (HS2.out _ (by rw [if_pos ⟨HOK.out, by rw [HLO.out]; omega⟩]))
        rw [HHI.out] at HE
        clear HS1 HS2 P2 hp2 h1 h2 h3 h4 h5 hb1 w1 w2 w3 w4 hq
        go_quiet ((exact Calls.quiet_of_same (HSZ.out _)))
        refine HKf.out _ _ ?_
        clear HKf
        go_wp2
        refine HKe.out _ _ ?_
        clear HKe
        obtain ⟨W3, hW3⟩ : ∃ x, x = W2.drewN nq := ⟨_, rfl⟩
        have HG3 := hid (show wr.grownBy W3 none from by rw [hW3]; exact grown_trans G2.out (grown_drewN _ _))
        have c5 : W3.cell? ⟨wr.heap.size, 0, none⟩ = some (.int .i64 (e : Int)) := by rw [hW3]; exact c3
        have c6 : W3.cell? ⟨wr.heap.size, 1, none⟩ = some (.int .i64 p) := by rw [hW3]; exact c4
        have y5 := block_lt_of_cell c5
        rw [← hW3]
        clear hW3 c3 c4 y3
        go_quiet ((exact Calls.quiet_of_same (HSZ.out _)))
        refine HKc.out _ _ ?_
        clear HKc
        go_wp2
        go_roundw
        case rel => exact ⟨k + 1, (p + 1) * q, by omega, W3E.out, by go_num, hid (grown_trans HG.out (grown_trans HG3.out (grown_drewN _ _))), HE⟩
        case measure => simp [intOf]; omega
    · obtain rfl : k = m := by omega
      have HE := hid (show vl = true by
        have h := HRN.out
        rw [List.take_of_length_le (by rw [List.length_map, ← HM.out]; exact Nat.le_refl _)] at h
        rw [HV.out]; unfold vld; rw [h, List.length_map, ← HM.out]; simp; exact HL3.out)
      go_wp2
      go_ret
      exact ⟨by rw [HE.out]; rfl, grown_trans HG1.out HG.out⟩
end Go.Proofs.Yteakoleceoclkaa
