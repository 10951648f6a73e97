/- Key trees: Gaps of the reference. -/
import Derived.Test.YteakoleceoclkaaK17
namespace Go.Proofs.Yteakoleceoclkaa
open Go.RowKit Go.Shelf
set_option linter.unusedSimpArgs false
set_option linter.unusedVariables false
attribute [local go_sem] Oper.semAt_some

theorem gst_ok (c : Int) (og : List (Int × Int)) {n : Nd} (h : okN n = true) : gst (c, og) n = (hi n, if c < lo n then og ++ [(c, lo n)] else og) := by
  unfold gst
  rw [span_ok h]
theorem gfold_next {l : List Nd} {k : Nat} {c : Int} {og : List (Int × Int)} (hk : k < l.length) (h : gfold (l.take k) = (c, og)) (ho : okN l[k] = true) : gfold (l.take (k + 1)) = (hi l[k], if c < lo l[k] then og ++ [(c, lo l[k])] else og) := by
  rw [List.take_succ_eq_append_getElem hk, gfold_snoc, h, gst_ok _ _ ho]
set_option maxRecDepth 100000 in
set_option maxHeartbeats 4000000 in
theorem rgaps_walk (l : List NdK) (s : Value) (w : World) (hR : RdL w s l) :
    Calls Try.prog 34 #[.agg #[s]] w fun e w' => ∃ v, e = .returned v ∧ Own w' 52 2 v (gaps (l.map (·.1))).length (gcells (gaps (l.map (·.1)))) ∧ Fresh w w' v := by
  obtain ⟨ao, cap, rfl, p1, p2⟩ := hR.shape
  have HR := hid hR
  obtain ⟨gl, hgl⟩ : ∃ v, v = gaps (l.map (·.1)) := ⟨_, rfl⟩
  rw [← hgl]
  have HV := hid hgl
  obtain ⟨m, hm⟩ : ∃ m, m = l.length := ⟨_, rfl⟩
  have hm0 : m ≤ 1099511627776 := by rw [hm]; exact hR.2.2
  rw [← hm] at HR p1 ⊢
  have HM := hid hm
  obtain ⟨w1, hw1⟩ : ∃ x, x = w.alloc (.cells #[.slice ao m cap] 34) := ⟨_, rfl⟩
  have HG1 := hid (show w.grownBy w1 none by rw [hw1]; exact World.grownBy_alloc _ _ _)
  have R0 := hid (show w1.heap[w.heap.size]? = some (.cells #[.slice ao m cap] 34 (0, 0)) by rw [hw1, World.alloc_heap_new])
  have c0 : w1.cell? ⟨w.heap.size, 0, none⟩ = some (.slice ao m cap) := by rw [cell_of_row _ _ _ _ _ _ R0.out]; rfl
  have y0 := block_lt_of_cell c0
  clear hR hgl hm
  go_enter Try.func34, Try.ntmps34
  refine wp_seq_k fun K0 k0 => ?_
  have HK0 := hid k0
  clear k0
  go_wp2
  rw [← hw1]
  refine HK0.out _ _ ?_
  clear HK0 hw1
  go_wp2_with fail
  refine (rvalid_walk l (.slice ao m cap) _ (HR.out.kn HG1.out)).mono ?_
  rintro e w2 ⟨rfl, g2⟩
  have G2 := hid (grown_trans HG1.out g2)
  have c0 := g2.cell c0 (by simp)
  have y0 := block_lt_of_cell c0
  have R0 := hid (row_of g2 R0.out (by simp))
  clear g2
  by_cases hv : vld (l.map (·.1)) = true
  · have HVL := hid hv
    simp only [hv]
    clear hv
    have HZ := hid (show gl = gend (gfold (l.map (·.1))) by rw [HV.out]; unfold gaps; rw [if_pos HVL.out])
    have HL3 := hid (show m ≤ 32768 by have h := HVL.out; unfold vld at h; rw [List.length_map, ← HM.out] at h; simp at h; exact h.1)
    have HOK := hid (vld_ok HVL.out)
    have LM := hid (show (l.map (·.1)).length = m from by rw [List.length_map, ← HM.out])
    go_wp2
    go_loopw [3, 4, 5, 6] (fun o f i t wr => ∃ (k : Nat) (c : Int) (og : List (Int × Int)) (ad : Option Addr) (cp : Nat), k ≤ m + 1 ∧ o = .slice ad og.length cp ∧ f = .int .i64 c ∧ i = .int .i64 k ∧ Hid (w.grownBy wr none) ∧ Hid (wr.heap[w.heap.size]? = some (.cells #[.slice ao m cap] 34 (0, 0))) ∧ Hid (Own wr 52 2 (.slice ad og.length cp) og.length (gcells og)) ∧ Hid (∀ k, (Value.slice ad og.length cp).ownBlock = some k → w.heap.size ≤ k) ∧ Hid ((k ≤ m → gfold ((l.map (·.1)).take k) = (c, og)) ∧ (k = m + 1 → og = gl))) (fun _ _ i _ _ => (m + 1 - intOf i).toNat)
    case atStart => exact ⟨0, 0, [], none, 0, by omega, rfl, rfl, rfl, G2, R0, hid (World.ownsRow_nil _ _ _ _), hid (fun k hk => by simp [Value.ownBlock] at hk), hid ⟨fun _ => rfl, fun h => by omega⟩⟩
    case round =>
      clear c0 y0 R0
      obtain ⟨k, c, og, ad, cp, hk, rfl, rfl, rfl, HG, HC, HO, HB, HP⟩ := hrel
      have c0 : wr.cell? ⟨w.heap.size, 0, none⟩ = some (.slice ao m cap) := by rw [cell_of_row _ _ _ _ _ _ HC.out]; rfl
      have y0 := block_lt_of_cell c0
      have HOL := hid (show k ≤ m → og.length ≤ k from fun h => by
        have h1 := gfold_len ((l.map (·.1)).take k)
        rw [HP.out.1 h, List.length_take] at h1
        simp only at h1
        omega)
      obtain ⟨lo', hlo⟩ : ∃ x, x = og.length := ⟨_, rfl⟩
      have HLO := hid hlo
      rw [← hlo] at HO HB ⊢
      clear hlo
      by_cases hlt : k < m
      · have HLB := hid (show lo' ≤ 32768 by have := HOL.out (by omega); have := HL3.out; have := HLO.out; omega)
        have hkl : k < (l.map (·.1)).length := by rw [LM.out]; exact hlt
        obtain ⟨b, off, rfl, hrg⟩ := HR.out.1.range (i := k) hkl
        have HNX := hid (show gfold ((l.map (·.1)).take (k + 1)) = (hi (l.map (·.1))[k], if c < lo (l.map (·.1))[k] then og ++ [(c, lo (l.map (·.1))[k])] else og) from gfold_next hkl (HP.out.1 (by omega)) (HOK.out _ (List.getElem_mem hkl)))
        have HOX := hid (HOK.out _ (List.getElem_mem hkl))
        generalize (l.map (·.1))[k] = x at *
        obtain ⟨d, p, kk⟩ := x
        have HN0 := hid (show ∀ W, w.grownBy W none → W.cell? ⟨b, off + k * 34, none⟩ = some (.int .i64 d) from fun W g => g.cell (hrg 0 _ rfl) (by simp))
        have n0 := HN0.out wr HG.out
        have n1 : wr.cell? ⟨b, off + k * 34 + 1, none⟩ = some (.int .i64 p) := HG.out.cell (hrg 1 _ rfl) (by simp)
        obtain ⟨o1, o2, o3, o4⟩ := okN_iff.1 HOX.out
        simp only at o1 o2 o3 o4
        obtain ⟨e, rfl⟩ : ∃ e : Nat, d = e := ⟨d.toNat, by omega⟩
        have he : e ≤ 34 := by omega
        obtain ⟨q, hq⟩ : ∃ q : Int, q = 2 ^ (34 - e) := ⟨_, rfl⟩
        have HSZ := hid (fun w => size_walk e he w)
        rw [← hq] at HSZ
        have hlo : lo ⟨(e : Int), p, kk⟩ = p * q := by unfold lo; simp only; rw [show (34 - (e : Int)).toNat = 34 - e by omega, hq]
        have hhi : hi ⟨(e : Int), p, kk⟩ = p * q + q := by unfold hi; simp only; rw [show (34 - (e : Int)).toNat = 34 - e by omega, ← hq, Int.add_mul, Int.one_mul]
        have hb1 : p * q ≤ 17179869184 ∧ 0 ≤ p * q ∧ p * q + q ≤ 17179869184 ∧ 0 ≤ q := by
          have h1 := hi_le HOX.out
          have h2 := lo_nonneg HOX.out
          rw [hhi] at h1
          rw [hlo] at h2
          have h3 : (0 : Int) < q := by rw [hq]; exact Int.pow_pos (by decide)
          omega
        rw [hlo, hhi] at HNX
        obtain ⟨TO, hTO⟩ : ∃ x, x = wrap64 (p * q) := ⟨_, rfl⟩
        have hT2 : TO = p * q := by rw [hTO]; unfold wrap64; omega
        have HTO := hid hTO
        have HFR := hid (show Value.int .i64 (wrap64 (TO + q)) = .int .i64 (p * q + q) by rw [hT2]; unfold wrap64; congr 1; omega)
        rw [← hT2] at HNX
        have HT2 := hid hT2
        have t1 : decide (k ≤ m) = true := by simp; omega
        have t2 : decide (k < m) = true := by simp; omega
        have i0 : (0 : Int) ≤ (k : Int) := by omega
        have i1 : (k : Int) < (m : Int) := by omega
        have i2 : (0 : Int) ≤ (e : Int) := by omega
        have i3 : (e : Int) ≤ 34 := by omega
        clear hlo hhi hb1 hTO hT2 hrg hkl hq o1 o2 o3 o4
        go_wp2
        go_quiet ((exact Calls.quiet_of_same (HSZ.out _)))
        try rw [← HTO.out]
        obtain ⟨W3, hW3⟩ : ∃ x, x = wr.drewN nq := ⟨_, rfl⟩
        have g3 : wr.grownBy W3 none := by rw [hW3]; exact grown_drewN _ _
        have HG3 := hid g3
        have OW := hid (HO.out.kn g3)
        have HC3 := hid (row_of g3 HC.out (by simp))
        rw [← hW3]
        clear hW3 g3 c0 y0 n0 n1
        by_cases hc : c < TO
        · have t3 : decide (c < TO) = true := decide_eq_true hc
          have HNY := hid (show gfold ((l.map (·.1)).take (k + 1)) = (p * q + q, og ++ [(c, TO)]) from by rw [HNX.out, if_pos hc, HT2.out])
          clear hc
          go_wp2_with (first
            | (refine wpList_pushH gapsT rfl (.tmp 39) (.tmp 43) rfl (.slice ad lo' cp) lo' (gcells og) rfl OW.out [.int .i64 c, .int .i64 TO] 1 _ rfl rfl rfl rfl (by have := HLB.out; omega) ?_; intro v3 w3 o3 s3; obtain ⟨ad3, cp3, rfl, _⟩ := (Sl.of_own o3).shape; have O3 := hid o3; have S3 := hid s3; clear o3 s3; have Q3 := hid (row_of S3.out.1 HC3.out (fun e => Own.ne OW.out HC3.out (by decide) e.symm)); have J3 := hid (grown_from (grown_trans HG.out HG3.out) S3.out.1 HB.out); have c0 : w3.cell? ⟨w.heap.size, 0, none⟩ = some (.slice (some ⟨b, off, none⟩) m cap) := (by rw [cell_of_row _ _ _ _ _ _ Q3.out]; rfl); have n0 := HN0.out w3 J3.out; have y0 := block_lt_of_cell c0; have y1 := block_lt_of_cell n0)
            | fail)
          refine (HSZ.out _).mono ?_
          rintro e4 w4 ⟨rfl, rfl⟩
          go_wp2
          go_roundw
          case rel => exact ⟨k + 1, p * q + q, og ++ [(c, TO)], ad3, cp3, by omega, by rw [List.length_append, ← HLO.out]; rfl, HFR.out, by go_num, J3, Q3, hid (by rw [gcells_snoc, List.length_append, ← HLO.out]; exact O3.out), hid (by rw [List.length_append, ← HLO.out]; exact fun k hk => (S3.out.2 k hk).elim (HB.out k) (fun h => Nat.le_trans (grown_trans HG.out HG3.out).size h)), hid ⟨fun _ => HNY.out, fun h => by omega⟩⟩
          case measure => simp [intOf] <;> omega
        · have t3 : decide (c < TO) = false := decide_eq_false hc
          have HNY := hid (show gfold ((l.map (·.1)).take (k + 1)) = (p * q + q, og) from by rw [HNX.out, if_neg hc, HT2.out])
          clear hc
          have c0 : W3.cell? ⟨w.heap.size, 0, none⟩ = some (.slice (some ⟨b, off, none⟩) m cap) := by rw [cell_of_row _ _ _ _ _ _ HC3.out]; rfl
          have n0 := HN0.out W3 (grown_trans HG.out HG3.out)
          have y0 := block_lt_of_cell c0
          have y1 := block_lt_of_cell n0
          go_wp2_with fail
          refine (HSZ.out _).mono ?_
          rintro e4 w4 ⟨rfl, rfl⟩
          go_wp2
          go_roundw
          case rel => exact ⟨k + 1, p * q + q, og, ad, cp, by omega, by rw [HLO.out], HFR.out, by go_num, hid (grown_trans HG.out HG3.out), HC3, hid (by rw [← HLO.out]; exact OW.out), hid (by rw [← HLO.out]; exact HB.out), hid ⟨fun _ => HNY.out, fun h => by omega⟩⟩
          case measure => simp [intOf] <;> omega
      · by_cases hkm : k = m
        · subst hkm
          have HLB := hid (show lo' ≤ 32768 by have := HOL.out (by omega); have := HL3.out; have := HLO.out; omega)
          have HGF := hid (show gfold (l.map (·.1)) = (c, og) from by
            have h := HP.out.1 (Nat.le_refl _)
            rwa [List.take_of_length_le (by rw [LM.out]; exact Nat.le_refl _)] at h)
          have t1 : decide (k ≤ k) = true := by simp
          have t2 : decide (k < k) = false := by simp
          by_cases hc : c < 17179869184
          · have t3 : decide (c < 17179869184) = true := decide_eq_true hc
            have HGL := hid (show og ++ [(c, 17179869184)] = gl from by rw [HZ.out, HGF.out]; unfold gend; simp only [if_pos hc])
            clear hc
            go_wp2_with (first
              | (refine wpList_pushH gapsT rfl (.tmp 39) (.tmp 43) rfl (.slice ad lo' cp) lo' (gcells og) rfl HO.out [.int .i64 c, .int .i64 17179869184] 1 _ rfl rfl rfl rfl (by have := HLB.out; omega) ?_; intro v3 w3 o3 s3; obtain ⟨ad3, cp3, rfl, _⟩ := (Sl.of_own o3).shape; have O3 := hid o3; have S3 := hid s3; clear o3 s3; have Q3 := hid (row_of S3.out.1 HC.out (fun e => Own.ne HO.out HC.out (by decide) e.symm)); have J3 := hid (grown_from HG.out S3.out.1 HB.out); have c0 : w3.cell? ⟨w.heap.size, 0, none⟩ = some (.slice ao k cap) := (by rw [cell_of_row _ _ _ _ _ _ Q3.out]; rfl); have y0 := block_lt_of_cell c0)
              | fail)
            go_roundw
            case rel => exact ⟨k + 1, c, og ++ [(c, 17179869184)], ad3, cp3, by omega, by rw [List.length_append, ← HLO.out]; rfl, rfl, by go_num, J3, Q3, hid (by rw [gcells_snoc, List.length_append, ← HLO.out]; exact O3.out), hid (by rw [List.length_append, ← HLO.out]; exact fun k hk => (S3.out.2 k hk).elim (HB.out k) (fun h => Nat.le_trans HG.out.size h)), hid ⟨fun h => by omega, fun _ => HGL.out⟩⟩
            case measure => simp [intOf] <;> omega
          · have t3 : decide (c < 17179869184) = false := decide_eq_false hc
            have HGL := hid (show og = gl from by rw [HZ.out, HGF.out]; unfold gend; simp only [if_neg hc])
            clear hc
            go_wp2
            go_roundw
            case rel => exact ⟨k + 1, c, og, ad, cp, by omega, by rw [HLO.out], rfl, by go_num, HG, HC, hid (by rw [← HLO.out]; exact HO.out), hid (by rw [← HLO.out]; exact HB.out), hid ⟨fun h => by omega, fun _ => HGL.out⟩⟩
            case measure => simp [intOf] <;> omega
        · have t1 : decide (k ≤ m) = false := by simp; omega
          have HGL := hid (HP.out.2 (by omega))
          go_wp2
          go_ret
          exact ⟨_, rfl, by rw [← HGL.out, ← HLO.out]; exact HO.out, Step.fresh HG.out HB.out⟩
  · have HVL := hid hv
    simp only [Bool.not_eq_true] at hv
    simp only [hv]
    clear hv
    have HZ := hid (show gl = [] by rw [HV.out]; unfold gaps; rw [if_neg HVL.out])
    go_wp2
    go_ret
    exact ⟨_, rfl, by rw [HZ.out]; exact World.ownsRow_nil _ _ _ _, Step.fresh G2.out (fun k hk => by simp [Value.ownBlock] at hk)⟩
end Go.Proofs.Yteakoleceoclkaa
