/- The helpers of the laws. (merged by merge.py) -/
import Derived.Test.YteakoleceoclkaaMK5
import Derived.Test.YteakoleceoclkaaMK4
namespace Go.Proofs.Yteakoleceoclkaa

/-! ## K19 -/
section
open Go.RowKit Go.Shelf
set_option linter.unusedSimpArgs false
set_option linter.unusedVariables false
attribute [local go_sem] Oper.semAt_some

theorem gst_ok (c : Int) (og : List (Int × Int)) {n : Nd} (h : okN n = true) : gst (c, og) n = (hi n, if c < lo n then og ++ [(c, lo n)] else og) := by
  unfold gst
  rw [span_ok h]
theorem gfold_next {l : List Nd} {k : Nat} {c : Int} {og : List (Int × Int)} (hk : k < l.length) (h : gfold (l.take k) = (c, og)) (ho : okN l[k] = true) : gfold (l.take (k + 1)) = (hi l[k], if c < lo l[k] then og ++ [(c, lo l[k])] else og) := by
  rw [List.take_succ_eq_append_getElem hk, gfold_snoc, h, gst_ok _ _ ho]
set_option maxRecDepth 100000 in
set_option maxHeartbeats 4000000 in
theorem rgaps_walk (l : List NdK) (s : Value) (w : World) (hR : RdL w s l) :
    Calls Try.prog 34 #[.agg #[s]] w fun e w' => ∃ v, e = .returned v ∧ Own w' 52 2 v (gaps (l.map (·.1))).length (gcells (gaps (l.map (·.1)))) ∧ Fresh w w' v := by
  obtain ⟨ao, cap, rfl, p1, p2⟩ := hR.shape
  have HR := hid hR
  obtain ⟨gl, hgl⟩ : ∃ v, v = gaps (l.map (·.1)) := ⟨_, rfl⟩
  rw [← hgl]
  have HV := hid hgl
  obtain ⟨m, hm⟩ : ∃ m, m = l.length := ⟨_, rfl⟩
  have hm0 : m ≤ 1099511627776 := by rw [hm]; exact hR.2.2
  rw [← hm] at HR p1 ⊢
  have HM := hid hm
  obtain ⟨w1, hw1⟩ : ∃ x, x = w.alloc (.cells #[.slice ao m cap] 34) := ⟨_, rfl⟩
  have HG1 := hid (show w.grownBy w1 none by rw [hw1]; exact World.grownBy_alloc _ _ _)
  have R0 := hid (show w1.heap[w.heap.size]? = some (.cells #[.slice ao m cap] 34 (0, 0)) by rw [hw1, World.alloc_heap_new])
  have c0 : w1.cell? ⟨w.heap.size, 0, none⟩ = some (.slice ao m cap) := by rw [cell_of_row _ _ _ _ _ _ R0.out]; rfl
  have y0 := block_lt_of_cell c0
  clear hR hgl hm
  go_enter Try.func34, Try.ntmps34
  refine wp_seq_k fun K0 k0 => ?_
  have HK0 := hid k0
  clear k0
  go_wp2
  rw [← hw1]
  refine HK0.out _ _ ?_
  clear HK0 hw1
  go_wp2_with fail
  refine (rvalid_walk l (.slice ao m cap) _ (HR.out.kn HG1.out)).mono ?_
  rintro e w2 ⟨rfl, g2⟩
  have G2 := hid (grown_trans HG1.out g2)
  have c0 := g2.cell c0 (by simp)
  have y0 := block_lt_of_cell c0
  have R0 := hid (row_of g2 R0.out (by simp))
  clear g2
  by_cases hv : vld (l.map (·.1)) = true
  · have HVL := hid hv
    simp only [hv]
    clear hv
    have HZ := hid (show gl = gend (gfold (l.map (·.1))) by rw [HV.out]; unfold gaps; rw [if_pos HVL.out])
    have HL3 := hid (show m ≤ 32768 by have h := HVL.out; unfold vld at h; rw [List.length_map, ← HM.out] at h; simp at h; exact h.1)
    have HOK := hid (vld_ok HVL.out)
    have LM := hid (show (l.map (·.1)).length = m from by rw [List.length_map, ← HM.out])
    go_wp2
    go_loopw [3, 4, 5, 6] (fun o f i t wr => ∃ (k : Nat) (c : Int) (og : List (Int × Int)) (ad : Option Addr) (cp : Nat), k ≤ m + 1 ∧ o = .slice ad og.length cp ∧ f = .int .i64 c ∧ i = .int .i64 k ∧ Hid (w.grownBy wr none) ∧ Hid (wr.heap[w.heap.size]? = some (.cells #[.slice ao m cap] 34 (0, 0))) ∧ Hid (Own wr 52 2 (.slice ad og.length cp) og.length (gcells og)) ∧ Hid (∀ k, (Value.slice ad og.length cp).ownBlock = some k → w.heap.size ≤ k) ∧ Hid ((k ≤ m → gfold ((l.map (·.1)).take k) = (c, og)) ∧ (k = m + 1 → og = gl))) (fun _ _ i _ _ => (m + 1 - intOf i).toNat)
    case atStart => exact ⟨0, 0, [], none, 0, by omega, rfl, rfl, rfl, G2, R0, hid (World.ownsRow_nil _ _ _ _), hid (fun k hk => by simp [Value.ownBlock] at hk), hid ⟨fun _ => rfl, fun h => by omega⟩⟩
    case round =>
      clear c0 y0 R0
      obtain ⟨k, c, og, ad, cp, hk, rfl, rfl, rfl, HG, HC, HO, HB, HP⟩ := hrel
      have c0 : wr.cell? ⟨w.heap.size, 0, none⟩ = some (.slice ao m cap) := by rw [cell_of_row _ _ _ _ _ _ HC.out]; rfl
      have y0 := block_lt_of_cell c0
      have HOL := hid (show k ≤ m → og.length ≤ k from fun h => by
        have h1 := gfold_len ((l.map (·.1)).take k)
        rw [HP.out.1 h, List.length_take] at h1
        simp only at h1
        omega)
      obtain ⟨lo', hlo⟩ : ∃ x, x = og.length := ⟨_, rfl⟩
      have HLO := hid hlo
      rw [← hlo] at HO HB ⊢
      clear hlo
      by_cases hlt : k < m
      · have HLB := hid (show lo' ≤ 32768 by have := HOL.out (by omega); have := HL3.out; have := HLO.out; omega)
        have hkl : k < (l.map (·.1)).length := by rw [LM.out]; exact hlt
        obtain ⟨b, off, rfl, hrg⟩ := HR.out.1.range (i := k) hkl
        have HNX := hid (show gfold ((l.map (·.1)).take (k + 1)) = (hi (l.map (·.1))[k], if c < lo (l.map (·.1))[k] then og ++ [(c, lo (l.map (·.1))[k])] else og) from gfold_next hkl (HP.out.1 (by omega)) (HOK.out _ (List.getElem_mem hkl)))
        have HOX := hid (HOK.out _ (List.getElem_mem hkl))
        generalize (l.map (·.1))[k] = x at *
        obtain ⟨d, p, kk⟩ := x
        have HN0 := hid (show ∀ W, w.grownBy W none → W.cell? ⟨b, off + k * 34, none⟩ = some (.int .i64 d) from fun W g => g.cell (hrg 0 _ rfl) (by simp))
        have n0 := HN0.out wr HG.out
        have n1 : wr.cell? ⟨b, off + k * 34 + 1, none⟩ = some (.int .i64 p) := HG.out.cell (hrg 1 _ rfl) (by simp)
        obtain ⟨o1, o2, o3, o4⟩ := okN_iff.1 HOX.out
        simp only at o1 o2 o3 o4
        obtain ⟨e, rfl⟩ : ∃ e : Nat, d = e := ⟨d.toNat, by omega⟩
        have he : e ≤ 34 := by omega
        obtain ⟨q, hq⟩ : ∃ q : Int, q = 2 ^ (34 - e) := ⟨_, rfl⟩
        have HSZ := hid (fun w => size_walk e he w)
        rw [← hq] at HSZ
        have hlo : lo ⟨(e : Int), p, kk⟩ = p * q := by unfold lo; simp only; rw [show (34 - (e : Int)).toNat = 34 - e by omega, hq]
        have hhi : hi ⟨(e : Int), p, kk⟩ = p * q + q := by unfold hi; simp only; rw [show (34 - (e : Int)).toNat = 34 - e by omega, ← hq, Int.add_mul, Int.one_mul]
        have hb1 : p * q ≤ 17179869184 ∧ 0 ≤ p * q ∧ p * q + q ≤ 17179869184 ∧ 0 ≤ q := by
          have h1 := hi_le HOX.out
          have h2 := lo_nonneg HOX.out
          rw [hhi] at h1
          rw [hlo] at h2
          have h3 : (0 : Int) < q := by rw [hq]; exact Int.pow_pos (by decide)
          omega
        rw [hlo, hhi] at HNX
        obtain ⟨TO, hTO⟩ : ∃ x, x = wrap64 (p * q) := ⟨_, rfl⟩
        have hT2 : TO = p * q := by rw [hTO]; unfold wrap64; omega
        have HTO := hid hTO
        have HFR := hid (show Value.int .i64 (wrap64 (TO + q)) = .int .i64 (p * q + q) by rw [hT2]; unfold wrap64; congr 1; omega)
        rw [← hT2] at HNX
        have HT2 := hid hT2
        have t1 : decide (k ≤ m) = true := by simp; omega
        have t2 : decide (k < m) = true := by simp; omega
        have i0 : (0 : Int) ≤ (k : Int) := by omega
        have i1 : (k : Int) < (m : Int) := by omega
        have i2 : (0 : Int) ≤ (e : Int) := by omega
        have i3 : (e : Int) ≤ 34 := by omega
        clear hlo hhi hb1 hTO hT2 hrg hkl hq o1 o2 o3 o4
        go_wp2
        go_quiet ((exact Calls.quiet_of_same (HSZ.out _)))
        try rw [← HTO.out]
        obtain ⟨W3, hW3⟩ : ∃ x, x = wr.drewN nq := ⟨_, rfl⟩
        have g3 : wr.grownBy W3 none := by rw [hW3]; exact grown_drewN _ _
        have HG3 := hid g3
        have OW := hid (HO.out.kn g3)
        have HC3 := hid (row_of g3 HC.out (by simp))
        rw [← hW3]
        clear hW3 g3 c0 y0 n0 n1
        by_cases hc : c < TO
        · have t3 : decide (c < TO) = true := decide_eq_true hc
          have HNY := hid (show gfold ((l.map (·.1)).take (k + 1)) = (p * q + q, og ++ [(c, TO)]) from by rw [HNX.out, if_pos hc, HT2.out])
          clear hc
          go_wp2_with (first
            | (refine wpList_pushH gapsT rfl (.tmp 39) (.tmp 43) rfl (.slice ad lo' cp) lo' (gcells og) rfl OW.out [.int .i64 c, .int .i64 TO] 1 _ rfl rfl rfl rfl (by have := HLB.out; omega) ?_; intro v3 w3 o3 s3; obtain ⟨ad3, cp3, rfl, _⟩ := (Sl.of_own o3).shape; have O3 := hid o3; have S3 := hid s3; clear o3 s3; have Q3 := hid (row_of S3.out.1 HC3.out (fun e => Own.ne OW.out HC3.out (by decide) e.symm)); have J3 := hid (grown_from (grown_trans HG.out HG3.out) S3.out.1 HB.out); have c0 : w3.cell? ⟨w.heap.size, 0, none⟩ = some (.slice (some ⟨b, off, none⟩) m cap) := (by rw [cell_of_row _ _ _ _ _ _ Q3.out]; rfl); have n0 := HN0.out w3 J3.out; have y0 := block_lt_of_cell c0; have y1 := block_lt_of_cell n0)
            | fail)
          refine (HSZ.out _).mono ?_
          rintro e4 w4 ⟨rfl, rfl⟩
          go_wp2
          go_roundw
          case rel => exact ⟨k + 1, p * q + q, og ++ [(c, TO)], ad3, cp3, by omega, by rw [List.length_append, ← HLO.out]; rfl, HFR.out, by go_num, J3, Q3, hid (by rw [gcells_snoc, List.length_append, ← HLO.out]; exact O3.out), hid (by rw [List.length_append, ← HLO.out]; exact fun k hk => (S3.out.2 k hk).elim (HB.out k) (fun h => Nat.le_trans (grown_trans HG.out HG3.out).size h)), hid ⟨fun _ => HNY.out, fun h => by omega⟩⟩
          case measure => simp [intOf] <;> omega
        · have t3 : decide (c < TO) = false := decide_eq_false hc
          have HNY := hid (show gfold ((l.map (·.1)).take (k + 1)) = (p * q + q, og) from by rw [HNX.out, if_neg hc, HT2.out])
          clear hc
          have c0 : W3.cell? ⟨w.heap.size, 0, none⟩ = some (.slice (some ⟨b, off, none⟩) m cap) := by rw [cell_of_row _ _ _ _ _ _ HC3.out]; rfl
          have n0 := HN0.out W3 (grown_trans HG.out HG3.out)
          have y0 := block_lt_of_cell c0
          have y1 := block_lt_of_cell n0
          go_wp2_with fail
          refine (HSZ.out _).mono ?_
          rintro e4 w4 ⟨rfl, rfl⟩
          go_wp2
          go_roundw
          case rel => exact ⟨k + 1, p * q + q, og, ad, cp, by omega, by rw [HLO.out], HFR.out, by go_num, hid (grown_trans HG.out HG3.out), HC3, hid (by rw [← HLO.out]; exact OW.out), hid (by rw [← HLO.out]; exact HB.out), hid ⟨fun _ => HNY.out, fun h => by omega⟩⟩
          case measure => simp [intOf] <;> omega
      · by_cases hkm : k = m
        · subst hkm
          have HLB := hid (show lo' ≤ 32768 by have := HOL.out (by omega); have := HL3.out; have := HLO.out; omega)
          have HGF := hid (show gfold (l.map (·.1)) = (c, og) from by
            have h := HP.out.1 (Nat.le_refl _)
            rwa [List.take_of_length_le (by rw [LM.out]; exact Nat.le_refl _)] at h)
          have t1 : decide (k ≤ k) = true := by simp
          have t2 : decide (k < k) = false := by simp
          by_cases hc : c < 17179869184
          · have t3 : decide (c < 17179869184) = true := decide_eq_true hc
            have HGL := hid (show og ++ [(c, 17179869184)] = gl from by rw [HZ.out, HGF.out]; unfold gend; simp only [if_pos hc])
            clear hc
            go_wp2_with (first
              | (refine wpList_pushH gapsT rfl (.tmp 39) (.tmp 43) rfl (.slice ad lo' cp) lo' (gcells og) rfl HO.out [.int .i64 c, .int .i64 17179869184] 1 _ rfl rfl rfl rfl (by have := HLB.out; omega) ?_; intro v3 w3 o3 s3; obtain ⟨ad3, cp3, rfl, _⟩ := (Sl.of_own o3).shape; have O3 := hid o3; have S3 := hid s3; clear o3 s3; have Q3 := hid (row_of S3.out.1 HC.out (fun e => Own.ne HO.out HC.out (by decide) e.symm)); have J3 := hid (grown_from HG.out S3.out.1 HB.out); have c0 : w3.cell? ⟨w.heap.size, 0, none⟩ = some (.slice ao k cap) := (by rw [cell_of_row _ _ _ _ _ _ Q3.out]; rfl); have y0 := block_lt_of_cell c0)
              | fail)
            go_roundw
            case rel => exact ⟨k + 1, c, og ++ [(c, 17179869184)], ad3, cp3, by omega, by rw [List.length_append, ← HLO.out]; rfl, rfl, by go_num, J3, Q3, hid (by rw [gcells_snoc, List.length_append, ← HLO.out]; exact O3.out), hid (by rw [List.length_append, ← HLO.out]; exact fun k hk => (S3.out.2 k hk).elim (HB.out k) (fun h => Nat.le_trans HG.out.size h)), hid ⟨fun h => by omega, fun _ => HGL.out⟩⟩
            case measure => simp [intOf] <;> omega
          · have t3 : decide (c < 17179869184) = false := decide_eq_false hc
            have HGL := hid (show og = gl from by rw [HZ.out, HGF.out]; unfold gend; simp only [if_neg hc])
            clear hc
            go_wp2
            go_roundw
            case rel => exact ⟨k + 1, c, og, ad, cp, by omega, by rw [HLO.out], rfl, by go_num, HG, HC, hid (by rw [← HLO.out]; exact HO.out), hid (by rw [← HLO.out]; exact HB.out), hid ⟨fun h => by omega, fun _ => HGL.out⟩⟩
            case measure => simp [intOf] <;> omega
        · have t1 : decide (k ≤ m) = false := by simp; omega
          have HGL := hid (HP.out.2 (by omega))
          go_wp2
          go_ret
          exact ⟨_, rfl, by rw [← HGL.out, ← HLO.out]; exact HO.out, Step.fresh HG.out HB.out⟩
  · have HVL := hid hv
    simp only [Bool.not_eq_true] at hv
    simp only [hv]
    clear hv
    have HZ := hid (show gl = [] by rw [HV.out]; unfold gaps; rw [if_neg HVL.out])
    go_wp2
    go_ret
    exact ⟨_, rfl, by rw [HZ.out]; exact World.ownsRow_nil _ _ _ _, Step.fresh G2.out (fun k hk => by simp [Value.ownBlock] at hk)⟩
end

/-! ## K20 -/
section
open Go.RowKit Go.Shelf
set_option linter.unusedSimpArgs false
set_option linter.unusedVariables false
attribute [local go_sem] Oper.semAt_some

/-- a comparison among quiet operations -/
theorem wpQuiet_bin {P : Program} {ops : Array Oper} {C : World → Prop} {Q : Act → Prop} {a : Act} {o : Oper} {rest : List Oper} (hgd : o.guard = none) (b : BinOp) (ty ty2 : TypeId) (x y : Operand) (ho : o.op = .binOp b ty x y ty2)
    {vx vy v : Value} (hx : a.eval x = vx) (hy : a.eval y = vy) (hr : ∀ w, (do eqGuard b ty x y vx vy; binOp b ty vx vy : Sem Value).run P w = .ok v w) (h : wpQuiet P ops C Q rest (a.put o.dst v)) : wpQuiet P ops C Q (o :: rest) a := by
  unfold wpQuiet
  have hw : Region.wanted o (yielded ops a.tmps) = true := by simp [Region.wanted, hgd]
  rw [if_pos hw]
  refine ⟨v, fun w _ => ?_, h⟩
  have hr := hr w
  unfold Oper.quietAt execOp
  simp only [ho, hx, hy]
  simp only [Sem.run_bind] at hr ⊢
  cases hg : (eqGuard b ty x y vx vy).run P w with
  | ok u w1 =>
    rw [hg] at hr
    simp only [Result.andThen_ok] at hr ⊢
    rw [hr]
    exact ⟨rfl, rfl⟩
  | halt u w1 =>
    rw [hg] at hr
    cases hr
theorem node_ne_same {x : Nd} (hx : Nok x) (px py : Operand) (w : World) : (do eqGuard .neq 91 px py (nval x) (nval x); binOp .neq 91 (nval x) (nval x) : Sem Value).run Try.prog w = .ok (.bool false) w := by
  have h := (node_eqb hx hx px py w).2
  simpa using h
set_option maxRecDepth 100000 in
set_option maxHeartbeats 4000000 in
theorem sameTree_walk {l : List Nd} {s t : Value} {w : World} (hs : RdT w s l) (ht : RdT w t l) :
    Calls Try.prog 26 #[.agg #[s], .agg #[t]] w fun e w' => e = .returned (.bool true) ∧ w.grownBy w' none := by
  obtain ⟨L, hL, hs2⟩ := hs.k
  obtain ⟨L2, hL2, ht2⟩ := ht.k
  obtain ⟨ao, cap, rfl⟩ := hs.shape
  obtain ⟨bo, cbp, rfl⟩ := ht.shape
  have HS := hid hs2
  have HT := hid ht2
  have HL := hid hL
  have HL2 := hid hL2
  obtain ⟨m, hm⟩ : ∃ m, m = l.length := ⟨_, rfl⟩
  have hm0 : m ≤ 1099511627776 := by rw [hm]; exact hs.2.2.2
  rw [← hm] at HS HT ⊢
  have HM := hid hm
  obtain ⟨w1, hw1⟩ : ∃ x, x = (w.alloc (.cells #[.slice ao m cap] 34)).alloc (.cells #[.slice bo m cbp] 34) := ⟨_, rfl⟩
  have HG1 := hid (show w.grownBy w1 none by rw [hw1]; exact grown_trans (World.grownBy_alloc _ _ _) (World.grownBy_alloc _ _ _))
  have c0 : w1.cell? ⟨w.heap.size, 0, none⟩ = some (.slice ao m cap) := by
    rw [hw1, cell_of_row _ _ _ _ _ _ (show ((w.alloc (.cells #[.slice ao m cap] 34)).alloc (.cells #[.slice bo m cbp] 34)).heap[w.heap.size]? = some (.cells #[.slice ao m cap] 34 (0, 0)) by rw [heap_past (by simp), World.alloc_heap_new])]; rfl
  have c1 : w1.cell? ⟨w.heap.size + 1, 0, none⟩ = some (.slice bo m cbp) := by
    rw [hw1, cell_of_row _ _ _ _ _ _ (show ((w.alloc (.cells #[.slice ao m cap] 34)).alloc (.cells #[.slice bo m cbp] 34)).heap[w.heap.size + 1]? = some (.cells #[.slice bo m cbp] 34 (0, 0)) by rw [heap_at (by simp)])]; rfl
  have y0 := block_lt_of_cell c0
  have y1 := block_lt_of_cell c1
  have C0 := hid c0
  have C1 := hid c1
  have HG0 := hid (World.grownBy.refl w1 none)
  clear hs ht hs2 ht2 hL hL2 hm
  go_enter Try.func26, Try.ntmps26
  refine wp_seq_k fun K0 k0 => ?_
  have HK0 := hid k0
  clear k0
  go_wp2
  rw [← hw1]
  refine HK0.out _ _ ?_
  clear HK0 hw1
  go_wp2
  go_loopw [5] (fun i wr => ∃ k : Nat, k ≤ m ∧ i = .int .i64 k ∧ Hid (w1.grownBy wr none)) (fun i _ => (m - intOf i).toNat)
  case atStart => exact ⟨0, by omega, rfl, HG0⟩
  case round =>
    clear HG0 c0 c1 y0 y1
    obtain ⟨k, hk, rfl, HG⟩ := hrel
    have c0 := HG.out.cell C0.out (by simp)
    have c1 := HG.out.cell C1.out (by simp)
    have y0 := block_lt_of_cell c0
    have y1 := block_lt_of_cell c1
    by_cases hlt : k < m
    · have hk1 : k < (L.map (·.1)).length := by rw [HL.out, ← HM.out]; exact hlt
      have hk2 : k < (L2.map (·.1)).length := by rw [HL2.out, ← HM.out]; exact hlt
      have hkl : k < l.length := by rw [← HM.out]; exact hlt
      have r1 := (HS.out.kn HG1.out).kn HG.out
      have r2 := (HT.out.kn HG1.out).kn HG.out
      obtain ⟨b1, off1, rfl, hr1⟩ := r1.1.range hk1
      obtain ⟨b2, off2, rfl, hr2⟩ := r2.1.range hk2
      have hNX : Nok (L.map (·.1))[k] := r1.1.2 _ (List.getElem_mem hk1)
      have e1 : (L.map (·.1))[k] = l[k] := by simp only [HL.out]
      have e2 : (L2.map (·.1))[k] = l[k] := by simp only [HL2.out]
      rw [e1] at hr1 hNX
      rw [e2] at hr2
      have HR1 := hid hr1
      have HR2 := hid hr2
      have HNX := hid hNX
      generalize l[k] = x at *
      have TN := hid (tyN x HNX.out.1.1)
      have i0 : (0 : Int) ≤ (k : Int) := by omega
      have i1 : (k : Int) < (m : Int) := by omega
      have HL1 := hid (show ∀ w', (∃ s : Gw wr, w' = s.val) → (Instr.loadAt 91 (.pointer (some ⟨b1, off1 + k * 34, none⟩))).run Try.prog w' = .ok (nval x) w' from fun w' ⟨s, h⟩ => by subst h; exact loadsAt TN.out (rangeAt_kept HR1.out s.g))
      have HL2' := hid (show ∀ w', (∃ s : Gw wr, w' = s.val) → (Instr.loadAt 91 (.pointer (some ⟨b2, off2 + k * 34, none⟩))).run Try.prog w' = .ok (nval x) w' from fun w' ⟨s, h⟩ => by subst h; exact loadsAt TN.out (rangeAt_kept HR2.out s.g))
      have d0 : ∀ s : Gw wr, s.val.cell? ⟨w.heap.size, 0, none⟩ = some (.slice (some ⟨b1, off1, none⟩) m cap) := fun s => s.cell c0
      have d1 : ∀ s : Gw wr, s.val.cell? ⟨w.heap.size + 1, 0, none⟩ = some (.slice (some ⟨b2, off2, none⟩) m cbp) := fun s => s.cell c1
      clear hr1 hr2 hNX e1 e2 r1 r2 hk1 hk2 hkl
      go_wp2
      refine wp_region_grown (by kernel_rfl) (by kernel_rfl) ?_
      iterate 4 (quiet_step (fail))
      refine wpQuiet_load rfl 91 (.tmp 23) rfl rfl HL1.out ?_
      iterate 4 (quiet_step (fail))
      refine wpQuiet_load rfl 91 (.tmp 28) rfl rfl HL2'.out ?_
      refine wpQuiet_bin rfl .neq 91 91 (.tmp 24) (.tmp 29) rfl rfl rfl (fun w => node_ne_same HNX.out _ _ w) ?_
      refine wpQuiet_nil ?_
      rintro _ ⟨s, rfl⟩
      have GS := hid s.g
      generalize s.val = W3 at *
      clear d0 d1 HL1 HL2'
      try go_frame
      go_wp2
      go_roundw
      case rel => exact ⟨k + 1, by omega, by go_num, hid (grown_trans HG.out GS.out)⟩
      case measure => simp [intOf]; omega
    · obtain rfl : k = m := by omega
      go_wp2
      go_ret
      exact ⟨rfl, grown_trans HG1.out HG.out⟩
theorem grange {w : World} {ao : Option Addr} {n cap : Nat} {g : List (Int × Int)} (h : Sl w 2 (.slice ao n cap) g.length (gcells g)) {i : Nat} (hi : i < g.length) : ∃ b off, ao = some ⟨b, off, none⟩ ∧ w.rangeAt b (off + i * 2) [.int .i64 g[i].1, .int .i64 g[i].2] := by
  have hl : (gcells g).length = g.length * 2 := by
    clear h hi
    induction g with
    | nil => rfl
    | cons x g ih => unfold gcells at *; rw [List.flatMap_cons, List.length_append, ih, List.length_cons]; simp; omega
  have hat : ((gcells g).drop (i * 2)).take 2 = [.int .i64 g[i].1, .int .i64 g[i].2] := by
    clear h hl
    induction g generalizing i with
    | nil => simp at hi
    | cons x g ih =>
      unfold gcells at *
      rw [List.flatMap_cons]
      cases i with
      | zero => simp
      | succ i =>
        rw [show (i + 1) * 2 = 2 + i * 2 by omega, ← List.drop_drop]
        exact ih (by simpa using hi)
  obtain ⟨b, off, hb, hc⟩ := Sl.at h 0 (by rw [hl]; omega)
  refine ⟨b, off, hb, fun j v hj => ?_⟩
  have hjl := (List.getElem?_eq_some_iff.1 hj).1
  simp only [List.length_cons, List.length_nil] at hjl
  have hk : i * 2 + j < (gcells g).length := by rw [hl]; omega
  rw [Nat.add_assoc, hc _ hk]
  rw [← hat, List.getElem?_take, if_pos (by omega), List.getElem?_drop, List.getElem?_eq_getElem hk] at hj
  exact hj
set_option maxRecDepth 100000 in
set_option maxHeartbeats 4000000 in
theorem sameGaps_walk {g : List (Int × Int)} {s t : Value} {w : World} (hs : Sl w 2 s g.length (gcells g)) (ht : Sl w 2 t g.length (gcells g)) (hg : ∀ p ∈ g, (0 ≤ p.1 ∧ p.1 ≤ 17179869184) ∧ (0 ≤ p.2 ∧ p.2 ≤ 17179869184)) (hl : g.length ≤ 1099511627776) :
    Calls Try.prog 31 #[s, t] w fun e w' => e = .returned (.bool true) ∧ w.grownBy w' none := by
  have HS := hid hs
  have HT := hid ht
  have HGP := hid hg
  obtain ⟨ao, cap, rfl, _⟩ := hs.shape
  obtain ⟨bo, cbp, rfl, _⟩ := ht.shape
  obtain ⟨m, hm⟩ : ∃ m, m = g.length := ⟨_, rfl⟩
  have hm0 : m ≤ 1099511627776 := by rw [hm]; exact hl
  have HM := hid hm
  rw [← hm]
  have HG0 := hid (World.grownBy.refl w none)
  clear hs ht hm hg hl
  go_enter Try.func31, Try.ntmps31
  go_wp2
  go_loopw [5] (fun i wr => ∃ k : Nat, k ≤ m ∧ i = .int .i64 k ∧ Hid (w.grownBy wr none)) (fun i _ => (m - intOf i).toNat)
  case atStart => exact ⟨0, by omega, rfl, HG0⟩
  case round =>
    clear HG0
    obtain ⟨k, hk, rfl, HG⟩ := hrel
    by_cases hlt : k < m
    · have hkl : k < g.length := by rw [← HM.out]; exact hlt
      have r1 := Sl.kn HS.out HG.out
      have r2 := Sl.kn HT.out HG.out
      obtain ⟨b1, off1, rfl, hr1⟩ := grange r1 hkl
      obtain ⟨b2, off2, rfl, hr2⟩ := grange r2 hkl
      have hb := HGP.out _ (List.getElem_mem hkl)
      have HR1 := hid hr1
      have HR2 := hid hr2
      have HBD := hid hb
      generalize g[k] = x at *
      have i0 : (0 : Int) ≤ (k : Int) := by omega
      have i1 : (k : Int) < (m : Int) := by omega
      have TG := hid (show TY Try.prog 52 [.int .i64 x.1, .int .i64 x.2] (.agg #[.int .i64 x.1, .int .i64 x.2]) from TY.agg Try.underlying52 rfl (by kernel_rfl) (by simp [Value.oneCell']))
      have HL1 := hid (show ∀ w', (∃ s : Gw wr, w' = s.val) → (Instr.loadAt 52 (.pointer (some ⟨b1, off1 + k * 2, none⟩))).run Try.prog w' = .ok (.agg #[.int .i64 x.1, .int .i64 x.2]) w' from fun w' ⟨s, h⟩ => by subst h; exact loadsAt TG.out (rangeAt_kept HR1.out s.g))
      have HL2 := hid (show ∀ w', (∃ s : Gw wr, w' = s.val) → (Instr.loadAt 52 (.pointer (some ⟨b2, off2 + k * 2, none⟩))).run Try.prog w' = .ok (.agg #[.int .i64 x.1, .int .i64 x.2]) w' from fun w' ⟨s, h⟩ => by subst h; exact loadsAt TG.out (rangeAt_kept HR2.out s.g))
      have HNE := hid (show ∀ (px py : Operand) (W : World), (do eqGuard .neq 52 px py (.agg #[.int .i64 x.1, .int .i64 x.2]) (.agg #[.int .i64 x.1, .int .i64 x.2]); binOp .neq 52 (.agg #[.int .i64 x.1, .int .i64 x.2]) (.agg #[.int .i64 x.1, .int .i64 x.2]) : Sem Value).run Try.prog W = .ok (.bool false) W from fun px py W => by
        have h := (gap_eqb (a := x.1) (b := x.2) (c := x.1) (e := x.2) (by omega) (by omega) (by omega) (by omega) px py W).2
        simpa using h)
      clear hr1 hr2 hb r1 r2 hkl
      go_wp2
      refine wp_region_grown (by kernel_rfl) (by kernel_rfl) ?_
      iterate 3 (quiet_step (fail))
      refine wpQuiet_load rfl 52 (.tmp 19) rfl rfl HL1.out ?_
      iterate 3 (quiet_step (fail))
      refine wpQuiet_load rfl 52 (.tmp 23) rfl rfl HL2.out ?_
      refine wpQuiet_bin rfl .neq 52 52 (.tmp 20) (.tmp 24) rfl rfl rfl (fun w => HNE.out _ _ w) ?_
      refine wpQuiet_nil ?_
      rintro _ ⟨s, rfl⟩
      have GS := hid s.g
      generalize s.val = W3 at *
      clear HL1 HL2
      try go_frame
      go_wp2
      go_roundw
      case rel => exact ⟨k + 1, by omega, by go_num, hid (grown_trans HG.out GS.out)⟩
      case measure => simp [intOf]; omega
    · obtain rfl : k = m := by omega
      go_wp2
      go_ret
      exact ⟨rfl, HG.out⟩
end

/-! ## K21 -/
section
open Go.RowKit Go.Shelf
set_option linter.unusedSimpArgs false
set_option linter.unusedVariables false
attribute [local go_sem] Oper.semAt_some

def ic (l : List Int) : List Value := l.flatMap fun n => [.int .i64 n]
theorem ic_len (l : List Int) : (ic l).length = l.length := by
  induction l with
  | nil => rfl
  | cons x l ih => unfold ic at *; rw [List.flatMap_cons, List.length_append, ih, List.length_cons]; simp; omega
theorem ic_get (l : List Int) (i : Nat) (h : i < l.length) : (ic l)[i]? = some (.int .i64 l[i]) := by
  induction l generalizing i with
  | nil => simp at h
  | cons x l ih =>
    unfold ic at *
    rw [List.flatMap_cons]
    cases i with
    | zero => rfl
    | succ i => simpa using ih i (by simpa using h)
theorem ic_snoc (l : List Int) (x : Int) : ic (l ++ [x]) = ic l ++ [.int .i64 x] := by unfold ic; rw [List.flatMap_append]; rfl
theorem irange {w : World} {ao : Option Addr} {n cap : Nat} {l : List Int} (h : Sl w 1 (.slice ao n cap) n (ic l)) {i : Nat} (hi : i < l.length) : ∃ b off, ao = some ⟨b, off, none⟩ ∧ w.cell? ⟨b, off + i, none⟩ = some (.int .i64 l[i]) := by
  have hl := ic_len l
  obtain ⟨b, off, hb, hc⟩ := Sl.at h 0 (by rw [hl]; omega)
  refine ⟨b, off, hb, ?_⟩
  rw [hc i (by rw [hl]; exact hi)]
  have := ic_get l i hi
  rw [List.getElem?_eq_getElem (by rw [hl]; exact hi)] at this
  exact this
/-- the first addresses of a list, each once -/
def difs (most : Nat) : List Int → List Int → List Int
  | out, [] => out
  | out, x :: l => if out.length < most then (if adr x ∈ out then difs most out l else difs most (out ++ [adr x]) l) else out
theorem adr_range (n : Int) : 0 ≤ adr n ∧ adr n < 17179869184 := by
  have e : adr n = IntKind.i64.wrap (((BitVec.ofInt 64 n) &&& (BitVec.ofInt 64 17179869183)).toNat : Int) := rfl
  have h : ((BitVec.ofInt 64 n) &&& (BitVec.ofInt 64 17179869183)).toNat ≤ 17179869183 := by
    rw [BitVec.toNat_and]
    exact Nat.le_trans Nat.and_le_right (by decide)
  rw [e, IntKind.wrap_i64]
  omega
theorem adr_isAddr (n : Int) : isAddr (adr n) = true := isAddr_iff.2 (adr_range n)
theorem difs_addr (most : Nat) : ∀ (l out : List Int), (∀ a ∈ out, isAddr a = true) → ∀ a ∈ difs most out l, isAddr a = true := by
  intro l
  induction l with
  | nil => intro out h; exact h
  | cons x l ih =>
    intro out h
    rw [difs]
    split
    · split
      · exact ih out h
      · refine ih _ fun a ha => ?_
        rcases List.mem_append.1 ha with ha | ha
        · exact h a ha
        · obtain rfl := List.mem_singleton.1 ha; exact adr_isAddr x
    · exact h
theorem difs_len (most : Nat) : ∀ (l out : List Int), out.length ≤ most → (difs most out l).length ≤ most := by
  intro l
  induction l with
  | nil => intro out h; exact h
  | cons x l ih =>
    intro out h
    rw [difs]
    split
    · split
      · exact ih out h
      · exact ih _ (by rw [List.length_append, List.length_singleton]; omega)
    · exact h
theorem difs_nodup (most : Nat) : ∀ (l out : List Int), out.Nodup → (difs most out l).Nodup := by
  intro l
  induction l with
  | nil => intro out h; exact h
  | cons x l ih =>
    intro out h
    rw [difs]
    split
    · split
      · exact ih out h
      · rename_i hx
        refine ih _ (List.nodup_append.2 ⟨h, by simp, fun a ha b hb e => ?_⟩)
        obtain rfl := List.mem_singleton.1 hb
        exact hx (e ▸ ha)
    · exact h
theorem difs_full (most : Nat) {out : List Int} (l : List Int) (h : most ≤ out.length) : difs most out l = out := by
  cases l with
  | nil => rfl
  | cons x l => rw [difs, if_neg (by omega)]
theorem intsT : ET Try.prog 37 2 (.int .i64 0) 1 8 := ⟨Try.underlying37, info_parts (by kernel_rfl), rfl, by decide, by decide⟩
theorem mem_take_succ {l : List Int} {k : Nat} (hk : k < l.length) (x : Int) : x ∈ l.take (k + 1) ↔ x ∈ l.take k ∨ l[k] = x := by
  rw [List.take_succ_eq_append_getElem hk, List.mem_append, List.mem_singleton]
  exact ⟨fun h => h.elim .inl fun h => .inr h.symm, fun h => h.elim .inl fun h => .inr h.symm⟩
theorem Fresh.then_ {w W W' : World} {v : Value} (h : Fresh w W v) (g : W.grownBy W' none) : Fresh w W' v :=
  Step.fresh (grown_trans h.none g) fun k hk => (h.2 k hk).elim (fun h => by simp [nilS, Value.ownBlock] at h) id
theorem Fresh.step {w W W' : World} {v v' : Value} (h : Fresh w W v) (s : Step W v W' v') : Fresh w W' v' := by
  have hb : ∀ k, v.ownBlock = some k → w.heap.size ≤ k := fun k hk => (h.2 k hk).elim (fun h => by simp [nilS, Value.ownBlock] at h) id
  exact Step.fresh (grown_from h.none s.1 hb) fun k hk => (s.2 k hk).elim (hb k) (fun h1 => Nat.le_trans h.none.size h1)
set_option maxRecDepth 100000 in
set_option maxHeartbeats 4000000 in
theorem different_walk (l : List Int) (v : Value) (most : Nat) (hm : most ≤ 100) (w : World) (hv : Sl w 1 v l.length (ic l)) (hll : l.length ≤ 9223372036854775807) :
    Calls Try.prog 28 #[v, .int .i64 (most : Int)] w fun e w' => ∃ ao cap, e = .returned (.slice ao (difs most [] l).length cap) ∧ Own w' 2 1 (.slice ao (difs most [] l).length cap) (difs most [] l).length (ic (difs most [] l)) ∧ Fresh w w' (.slice ao (difs most [] l).length cap) := by
  obtain ⟨ao, cap, rfl, p1, p2⟩ := hv.shape
  have HV := hid hv
  obtain ⟨r, hr⟩ : ∃ r, r = difs most [] l := ⟨_, rfl⟩
  have HR := hid hr
  rw [← hr]
  obtain ⟨m, hml⟩ : ∃ m, m = l.length := ⟨_, rfl⟩
  have HM := hid hml
  rw [← hml] at HV p1 ⊢
  have hm2 : m ≤ 9223372036854775807 := by omega
  clear hv hr hml hll
  go_enter Try.func28, Try.ntmps28
  go_wp2
  go_loopw [5, 6, 7, 8] (fun o i fd kk wr => ∃ (k : Nat) (out : List Int) (ad : Option Addr) (cp : Nat), k ≤ m ∧ o = .slice ad out.length cp ∧ i = .int .i64 k ∧ Hid (out.length ≤ most ∧ difs most out (l.drop k) = r) ∧ Hid (Own wr 2 1 (.slice ad out.length cp) out.length (ic out)) ∧ Hid (Fresh w wr (.slice ad out.length cp))) (fun _ i _ _ _ => (m - intOf i).toNat)
  case atStart => exact ⟨0, [], none, 0, by omega, rfl, rfl, hid ⟨by simp, by rw [List.drop_zero]; exact HR.out.symm⟩, hid (World.ownsRow_nil _ _ _ _), hid (Step.fresh (World.grownBy.refl _ _) (fun k hk => by simp [Value.ownBlock] at hk))⟩
  case round =>
    obtain ⟨k, out, ad, cp, hk, rfl, rfl, HP, HO, HF⟩ := hrel
    obtain ⟨n0, hn0⟩ : ∃ n, n = out.length := ⟨_, rfl⟩
    have HN := hid hn0
    rw [← hn0] at HO HF ⊢
    have hn1 : n0 ≤ most := by rw [hn0]; exact HP.out.1
    clear hn0
    by_cases hlt : k < m
    · by_cases hmo : n0 < most
      · have t1 : decide ((k : Int) < (m : Int)) = true := by simp; omega
        have t2 : decide ((n0 : Int) < (most : Int)) = true := by simp; omega
        have hkl : k < l.length := by rw [← HM.out]; exact hlt
        obtain ⟨x, hx⟩ : ∃ x, x = l[k] := ⟨_, rfl⟩
        obtain ⟨b, off, rfl, hc⟩ := irange HV.out hkl
        rw [← hx] at hc
        have HC := hid hc
        have HD := hid (show l.drop k = x :: l.drop (k + 1) by rw [hx]; exact List.drop_eq_getElem_cons hkl)
        obtain ⟨A, hA⟩ : ∃ A, A = adr x := ⟨_, rfl⟩
        have HA := hid (fun W => adr_walk x W)
        rw [← hA] at HA
        have HAq := hid hA
        clear hx hkl hc hA
        obtain ⟨wo, rfl⟩ : ∃ wo : World, wo = wr := ⟨_, rfl⟩
        have HWC := hid (fun (W : World) (g : wo.grownBy W none) => (grown_trans HF.out.none g).cell HC.out (by simp))
        have hkb : k < 9223372036854775807 := by omega
        have i0 : (0 : Int) ≤ (k : Int) := by omega
        have i1 : (k : Int) < (m : Int) := by omega
        go_wp2
        go_loopw [7, 8] (fun fd kv wq => ∃ j : Nat, j ≤ n0 ∧ kv = .int .i64 j ∧ fd = .bool (decide (A ∈ out.take j)) ∧ Hid (wo.grownBy wq none)) (fun _ kv _ => (n0 - intOf kv).toNat)
        case atStart => exact ⟨0, by omega, rfl, by simp, hid (World.grownBy.refl _ _)⟩
        case round =>
          obtain ⟨j, hj, rfl, rfl, HG⟩ := hrel
          have cL := HWC.out wr HG.out
          have yL := block_lt_of_cell cL
          by_cases hjn : j < n0
          · have hjo : j < out.length := by rw [← HN.out]; exact hjn
            have t3 : decide (j < n0) = true := by simp; omega
            by_cases hin : A ∈ out.take j
            · have hb : decide (A ∈ out.take j) = true := decide_eq_true hin
              have hb2 : decide (A ∈ out.take (j + 1)) = true := decide_eq_true ((mem_take_succ hjo A).2 (.inl hin))
              rw [hb]
              have HB2 := hid hb2
              clear hb hb2 hin
              go_wp2
              go_quiet ((exact Calls.quiet_of_same (HA.out _)))
              go_wp2
              go_roundw
              case rel => exact ⟨j + 1, by omega, by go_num, by rw [HB2.out], hid (grown_trans HG.out (grown_drewN _ _))⟩
              case measure => simp [intOf] <;> omega
            · have hb : decide (A ∈ out.take j) = false := decide_eq_false hin
              rw [hb]
              have hso := Sl.of_own (HO.out.kn HG.out)
              rw [show n0 = n0 from rfl] at hso
              obtain ⟨b2, off2, rfl, hc2⟩ := irange hso hjo
              obtain ⟨z, hz⟩ : ∃ z, z = out[j] := ⟨_, rfl⟩
              rw [← hz] at hc2
              have y2 := block_lt_of_cell hc2
              have j0 : (0 : Int) ≤ (j : Int) := by omega
              have j1 : (j : Int) < (n0 : Int) := by omega
              have HQ := hid (show decide (A ∈ out.take (j + 1)) = decide (z = A) from by
                rw [Bool.eq_iff_iff, decide_eq_true_iff, decide_eq_true_iff, mem_take_succ hjo A, hz]
                exact ⟨fun h => h.elim (fun h => absurd h hin) id, .inr⟩)
              clear hb hin hz hso
              by_cases hzA : z = A
              · have t4 : (z == A) = true := by simpa using hzA
                have HQ2 := hid (show decide (A ∈ out.take (j + 1)) = true from by rw [HQ.out]; exact decide_eq_true hzA)
                clear hzA
                go_wp2
                go_quiet ((exact Calls.quiet_of_same (HA.out _)))
                go_wp2
                go_roundw
                case rel => exact ⟨j + 1, by omega, by go_num, by rw [HQ2.out], hid (grown_trans HG.out (grown_drewN _ _))⟩
                case measure => simp [intOf] <;> omega
              · have t4 : (z == A) = false := by simpa using hzA
                have HQ2 := hid (show decide (A ∈ out.take (j + 1)) = false from by rw [HQ.out]; exact decide_eq_false hzA)
                clear hzA
                go_wp2
                go_quiet ((exact Calls.quiet_of_same (HA.out _)))
                go_wp2
                go_roundw
                case rel => exact ⟨j + 1, by omega, by go_num, by rw [HQ2.out], hid (grown_trans HG.out (grown_drewN _ _))⟩
                case measure => simp [intOf] <;> omega
          · obtain rfl : j = n0 := by omega
            have hta : out.take j = out := List.take_of_length_le (by rw [← HN.out]; exact Nat.le_refl _)
            rw [hta]
            clear hta
            by_cases hin : A ∈ out
            · have hb : decide (A ∈ out) = true := decide_eq_true hin
              have HNX := hid (show difs most out (l.drop (k + 1)) = r from by
                have h := HP.out.2
                rw [HD.out, difs, if_pos (by rw [← HN.out]; exact hmo), if_pos (by rw [← HAq.out]; exact hin)] at h
                exact h)
              rw [hb]
              clear hb hin
              go_wp2
              go_roundw
              case rel => exact ⟨k + 1, out, ad, cp, by omega, by rw [HN.out], by go_num, hid ⟨HP.out.1, HNX.out⟩, hid (by rw [← HN.out]; exact HO.out.kn HG.out), hid (by rw [← HN.out]; exact HF.out.then_ HG.out)⟩
              case measure => simp [intOf] <;> omega
            · have hb : decide (A ∈ out) = false := decide_eq_false hin
              have HNX := hid (show difs most (out ++ [A]) (l.drop (k + 1)) = r from by
                have h := HP.out.2
                rw [HD.out, difs, if_pos (by rw [← HN.out]; exact hmo), if_neg (by rw [← HAq.out]; exact hin), ← HAq.out] at h
                exact h)
              rw [hb]
              have OW := hid (HO.out.kn HG.out)
              clear hb hin
              go_wp2_with fail
              refine (HA.out _).mono ?_
              rintro e4 w4 ⟨rfl, rfl⟩
              go_wp2_with (first
                | (refine wpList_pushH intsT rfl (.tmp 42) (.tmp 48) rfl (.slice ad j cp) j (ic out) rfl OW.out [.int .i64 A] 1 _ rfl rfl rfl rfl (by omega) ?_; intro v3 w3 o3 s3; obtain ⟨ad3, cp3, rfl, _⟩ := (Sl.of_own o3).shape; have O3 := hid o3; have S3 := hid s3; clear o3 s3)
                | fail)
              go_roundw
              case rel => exact ⟨k + 1, out ++ [A], ad3, cp3, by omega, by rw [List.length_append, ← HN.out]; rfl, by go_num, hid ⟨by rw [List.length_append, ← HN.out]; exact hmo, HNX.out⟩, hid (by rw [ic_snoc, List.length_append, ← HN.out]; exact O3.out), hid (by rw [List.length_append, ← HN.out]; exact Fresh.step (HF.out.then_ HG.out) S3.out)⟩
              case measure => simp [intOf] <;> omega
      · have t1 : decide ((k : Int) < (m : Int)) = true := by simp; omega
        have t2 : decide ((n0 : Int) < (most : Int)) = false := by simp; omega
        have HE := hid (show out = r from by rw [← HP.out.2]; exact (difs_full most _ (by rw [← HN.out]; omega)).symm)
        go_wp2
        go_ret
        exact ⟨ad, cp, by rw [← HE.out, ← HN.out]; rfl, by rw [← HE.out, ← HN.out]; exact HO.out, by rw [← HE.out, ← HN.out]; exact HF.out⟩
    · obtain rfl : k = m := by omega
      have HE := hid (show out = r from by
        have h := HP.out.2
        rw [List.drop_of_length_le (by rw [← HM.out]; exact Nat.le_refl _)] at h
        exact h)
      go_wp2
      go_ret
      exact ⟨ad, cp, by rw [← HE.out, ← HN.out]; rfl, by rw [← HE.out, ← HN.out]; exact HO.out, by rw [← HE.out, ← HN.out]; exact HF.out⟩
end

/-! ## Q8 -/
section
open Go.RowKit Go.Shelf
set_option linter.unusedSimpArgs false
set_option linter.unusedVariables false

section
variable {P : Program} {ops : Array Oper} {L : List Sp} {n : Nat} {w0 : World} {o : Oper}
theorem ob_index {ty : TypeId} {x y : Operand} {d : Nat} {p k v : Value} (ho : o.op = .indexAddr ty x y) (hd : o.dst = some d) (hg : GOK ops L n o.guard) (hx : OpdIs L n x p) (hy : OpdIs L n y k) (hrun : ∀ w, (Instr.indexAt ty p k).run P w = .ok v w) (hv : ∀ w, At L d w v) : Ob P ops L n w0 o := by
  refine ob_run hg fun a w hw hl hsz => ⟨v, ?_, fun d' hd' => ?_⟩
  · have e1 := hx.eval (o := o) (by simp [ho, Op.operands]) hl
    have e2 := hy.eval (o := o) (by simp [ho, Op.operands]) hl
    simp only [execOp, ho, e1, e2, Sem.run_bind, Sem.run_pure, Result.andThen_ok, hrun w]
  · rw [hd] at hd'
    obtain rfl := Option.some.inj hd'
    exact hv w
theorem run_extract {a : Act} {s i : Nat} {vs : Array Value} {v : Value} (ho : o.op = .extract (.tmp s) i) (hx : a.tmps.getD s undef = .tuple vs) (hi : vs[i]? = some v) (w : World) : (execOp a.eval o).run P w = .ok (.value v) w := by
  have hx' : a.eval (.tmp s) = .tuple vs := hx
  simp only [execOp, ho, hx']
  simp [Instr.extract, hi]
/-- one of the values that a call returned -/
theorem ob_extract {s i d : Nat} (ho : o.op = .extract (.tmp s) i) (hd : o.dst = some d) (hs : s < n) (hg : GOK ops L n o.guard) (h : ∀ w u, At L s w u → ∃ vs v, u = .tuple vs ∧ vs[i]? = some v ∧ At L d w v) : Ob P ops L n w0 o := by
  refine ob_run hg fun a w hw hl hsz => ?_
  obtain ⟨vs, v, h1, h2, h3⟩ := h w _ (hl s (by simp [Oper.looksAt, ho, Op.operands]) hs)
  refine ⟨v, run_extract ho h1 h2 w, fun d' hd' => ?_⟩
  rw [hd] at hd'
  obtain rfl := Option.some.inj hd'
  exact h3
theorem pu_extract {s i d : Nat} {a : Act} {w : World} (ho : o.op = .extract (.tmp s) i) (hd : o.dst = some d) (hs : s < n) (hg : o.guard = none) (hl : ∀ t ∈ o.looksAt ops, t < n → At L t w (a.tmps.getD t undef)) (h : ∀ w u, At L s w u → ∃ vs v, u = .tuple vs ∧ vs[i]? = some v ∧ At L d w v) :
    ∃ v, Yields P ops o v a ∧ ∀ d, o.dst = some d → At L d w v := by
  obtain ⟨vs, v, h1, h2, h3⟩ := h w _ (hl s (by simp [Oper.looksAt, ho, Op.operands]) hs)
  refine pu_run (n := n) hg (v := v) (fun w' => run_extract ho h1 h2 w') fun d' hd' => ?_
  rw [hd] at hd'
  obtain rfl := Option.some.inj hd'
  exact h3
end
/-- what Puncture returned -/
def Sp.punc (r : List Nd × Int) : Sp := ⟨fun w v => ∃ ao cap, v = .tuple #[.agg #[.slice ao r.1.length cap], .int .i64 r.2] ∧ RdT w (.slice ao r.1.length cap) r.1, fun _ _ _ hg ⟨ao, cap, h1, h2⟩ => ⟨ao, cap, h1, h2.kn hg⟩⟩
/-- its tree -/
def Sp.tree (r : List Nd × Int) : Sp := ⟨fun w v => ∃ ao cap, v = .agg #[.slice ao r.1.length cap] ∧ RdT w (.slice ao r.1.length cap) r.1, fun _ _ _ hg ⟨ao, cap, h1, h2⟩ => ⟨ao, cap, h1, h2.kn hg⟩⟩
theorem punc_tree {r : List Nd × Int} (w : World) (u : Value) (h : (Sp.punc r).on w u) : ∃ vs v, u = .tuple vs ∧ vs[0]? = some v ∧ (Sp.tree r).on w v := by
  obtain ⟨ao, cap, h1, h2⟩ := h
  exact ⟨_, _, h1, rfl, ao, cap, rfl, h2⟩
theorem punc_err {r : List Nd × Int} (w : World) (u : Value) (h : (Sp.punc r).on w u) : ∃ vs v, u = .tuple vs ∧ vs[1]? = some v ∧ (Sp.is (.int .i64 r.2)).on w v := by
  obtain ⟨ao, cap, h1, h2⟩ := h
  exact ⟨_, _, h1, rfl, rfl⟩
theorem punct_on {w0 : World} {s : Value} {l : List Nd} {a : Int} {r : List Nd × Int} (hr : punOf l a = r) (h : RdT w0 s l) : ∀ W, w0.grownBy W none → Calls Try.prog 24 #[.agg #[s], .int .i64 a] W fun e W' => ∃ v, e = .returned v ∧ W.grownBy W' none ∧ (Sp.punc r).on W' v := fun W hW =>
  (punct_call hr (h.kn hW)).mono fun e W' ⟨ao, cap, h1, h2, h3⟩ => ⟨_, h1, h3, ao, cap, rfl, h2⟩
theorem rpunct_on {w0 : World} {s : Value} {l : List Nd} {a : Int} {r : List Nd × Int} (hr : punOf l a = r) (h : RdT w0 s l) : ∀ W, w0.grownBy W none → Calls Try.prog 25 #[.agg #[s], .int .i64 a] W fun e W' => ∃ v, e = .returned v ∧ W.grownBy W' none ∧ (Sp.punc r).on W' v := fun W hW =>
  (rpunct_call hr (h.kn hW)).mono fun e W' ⟨ao, cap, h1, h2, h3⟩ => ⟨_, h1, h3, ao, cap, rfl, h2⟩
theorem tcells_int {l : List Nd} : ∀ u ∈ tcells l, ∃ k x, u = .int k x := by
  intro u hu
  unfold tcells at hu
  obtain ⟨n, _, hu⟩ := List.mem_flatMap.1 hu
  unfold ncells at hu
  rcases List.mem_cons.1 hu with rfl | hu
  · exact ⟨_, _, rfl⟩
  rcases List.mem_cons.1 hu with rfl | hu
  · exact ⟨_, _, rfl⟩
  unfold bv at hu
  obtain ⟨x, _, rfl⟩ := List.mem_map.1 hu
  exact ⟨_, _, rfl⟩
/-- a variable of one cell that holds no number lies apart from what a tree reads -/
theorem RdT.aside {w w' : World} {s v : Value} {l : List Nd} {A : Nat} {T : TypeId} {fr : Nat × Nat} (h : RdT w s l) (hA : w.heap[A]? = some (.cells #[v] T fr)) (hv : ∀ k x, v ≠ .int k x) (g : w.grownBy w' (some A)) : RdT w' s l := by
  obtain ⟨⟨hlen, ao, cap, rfl, h1, h2, h3, h4⟩, h5, h6, h7⟩ := h
  refine ⟨⟨hlen, ao, cap, rfl, h1, h2, h3, fun ad had => ⟨(h4 ad had).1, fun j u hj => ?_⟩⟩, h5, fun k hk => Nat.lt_of_lt_of_le (h6 k hk) g.size, h7⟩
  have hc := (h4 ad had).2 j u hj
  by_cases hb : ad.block = A
  · exfalso
    rw [hb, cell_of_row _ _ _ _ _ _ hA] at hc
    obtain ⟨k, x, rfl⟩ := tcells_int u (List.mem_of_getElem? hj)
    have h0 := (Array.getElem?_eq_some_iff.1 hc).1
    simp at h0
    have hc0 : (#[v] : Array Value)[0]? = some (.int k x) := by rw [← hc]; congr 1; omega
    simp at hc0
    exact hv _ _ hc0
  · exact g.cell hc (by simpa using hb)
end

/-! ## K22 -/
section
open Go.RowKit Go.Shelf
set_option linter.unusedSimpArgs false
set_option linter.unusedVariables false
attribute [local go_sem] Oper.semAt_some

theorem punOf_next {k : List Nat} {l : List Int} {j : Nat} (hj : j < l.length) (hl : l.length ≤ 800) (ha : ∀ a ∈ l, isAddr a = true) : punOf (tree k (l.take j).reverse) l[j] = (tree k (l.take (j + 1)).reverse, 0) := by
  rw [punOf_tree (by rw [List.length_reverse, List.length_take]; omega) (ha _ (List.getElem_mem hj)), List.take_succ_eq_append_getElem hj, List.reverse_append]
  rfl
theorem tree_rev (k : List Nat) (l : List Int) : tree k l.reverse = tree k l := cover_congr (fun a => List.mem_reverse) 34 _
/-- what punctured hands out -/
def PtdC (w : World) (l : List Nd) (e : Ending) (w' : World) : Prop := ∃ ao cap, e = .returned (.tuple #[.agg #[.slice ao l.length cap], .bool true]) ∧ RdT w' (.slice ao l.length cap) l ∧ w.grownBy w' none
theorem bT0' (w : World) : (Instr.build 34 #[]).run Try.prog w = .ok (.agg #[.slice none 0 0]) w := by kernel_rfl
set_option maxRecDepth 100000 in
set_option maxHeartbeats 4000000 in
theorem punctured_walk (k : List Nat) (hk : Dg k) (l : List Int) (v : Value) (w : World) (hv : Sl w 1 v l.length (ic l)) (hl : l.length ≤ 800) (ha : ∀ a ∈ l, isAddr a = true) :
    Calls Try.prog 29 #[dval k, v] w (PtdC w (tree k l)) := by
  have HK := hid hk
  obtain ⟨ao, cap, rfl, p1, p2⟩ := hv.shape
  have HV := hid hv
  have HA := hid ha
  have HL := hid hl
  obtain ⟨m, hm⟩ : ∃ m, m = l.length := ⟨_, rfl⟩
  have HM := hid hm
  have hm2 : m ≤ 800 := by rw [hm]; exact hl
  rw [← hm] at HV p1 ⊢
  obtain ⟨C, hC⟩ : ∃ C, C = bv k := ⟨_, rfl⟩
  have TD := hid (show TY Try.prog 29 C (.agg C.toArray) by rw [hC]; exact tyD k hk.1)
  have NC := hid (fun W => new_call (w := W) hk)
  unfold dval at NC ⊢
  rw [← hC] at NC ⊢
  obtain ⟨w1, hw1⟩ : ∃ x, x = (w.alloc (.cells C.toArray 29)).alloc (.cells #[.slice none 0 0] 34) := ⟨_, rfl⟩
  have HG := hid (show w.grownBy w1 none by rw [hw1]; exact grown_trans (World.grownBy_alloc _ _ _) (World.grownBy_alloc _ _ _))
  have Z0 := hid (show w1.heap[w.heap.size]? = some (.cells C.toArray 29 (0, 0)) by rw [hw1, heap_past (by simp <;> omega), heap_at (by simp <;> omega)])
  have Z1 := hid (show w1.heap[w.heap.size + 1]? = some (.cells #[.slice none 0 0] 34 (0, 0)) by rw [hw1, heap_at (by simp)])
  have HSW := hid (show w1.heap.size = w.heap.size + 2 by rw [hw1]; simp)
  have HW := hid hw1
  clear hk hv hl ha hm hC hw1
  go_enter Try.func29, Try.ntmps29
  refine wp_seq_k fun K0 k0 => ?_
  have HK0 := hid k0
  clear k0
  go_wp2
  refine HK0.out _ _ ?_
  clear HK0
  rw [← HW.out]
  clear HW
  refine wp_seq_k fun K1 k1 => ?_
  have HK1 := hid k1
  clear k1
  go_wp2_with (first
    | (refine wpList_loadTY rfl 29 (.tmp 2) rfl rfl TD.out Z0.out ?_)
    | fail)
  refine (NC.out _).mono ?_
  rintro e W1 ⟨ao1, cap1, rfl, h1, g1⟩
  have T1 := hid h1
  have Z1 := hid (row_of g1 Z1.out (by simp))
  have HG := hid (grown_trans HG.out g1)
  have HS1 := hid (show w.heap.size + 2 ≤ W1.heap.size from by rw [← HSW.out]; exact g1.size)
  clear h1 g1 Z0
  obtain ⟨B, hB⟩ : ∃ x, x = W1.heap.size := ⟨_, rfl⟩
  have HB := hid hB
  clear hB
  go_wp2_with (first
    | (refine wpList_storeTYg rfl 34 (.tmp 6) (.tmp 11) rfl rfl rfl (tyT (.slice ao1 1 cap1) rfl) (heap_at rfl) rfl ?_; intro W2 g2 h2; rw [← HB.out] at h2; have G2 := hid (grown_newR (World.grownBy_alloc W1 _ none) g2 (Nat.le_refl _)); have H2 := hid h2; clear g2 h2)
    | fail)
  try go_frame
  rw [← HB.out]
  have Z1 := hid (row_of G2.out Z1.out (by simp))
  have HBw := hid (show w.heap.size + 2 ≤ B from by rw [HB.out]; exact HS1.out)
  have HG2 := hid (grown_trans HG.out G2.out)
  have T2 := hid (T1.out.kn G2.out)
  clear T1 G2
  refine HK1.out _ _ ?_
  clear HK1
  go_wp2
  go_loopw [7, 8, 9] (fun i p q wr => ∃ (j : Nat) (a2 : Option Addr) (n2 c2 : Nat), j ≤ m ∧ i = .int .i64 j ∧ n2 = (tree k (l.take j).reverse).length ∧ Hid (w.grownBy wr none) ∧ Hid (wr.heap[w.heap.size + 1]? = some (.cells #[.slice none 0 0] 34 (0, 0))) ∧ Hid (wr.heap[B]? = some (.cells #[.slice a2 n2 c2] 34 (0, 0))) ∧ Hid (RdT wr (.slice a2 n2 c2) (tree k (l.take j).reverse))) (fun i _ _ _ => (m - intOf i).toNat)
  case atStart => exact ⟨0, ao1, 1, cap1, by omega, rfl, by rw [List.take_zero, List.reverse_nil, tree_nil]; rfl, HG2, Z1, H2, hid (by rw [List.take_zero, List.reverse_nil]; exact T2.out)⟩
  case round =>
    clear HG2 Z1 H2 T2
    obtain ⟨j, a2, n2, c2, hj, rfl, hn2, HGR, HZ1, HT, HR⟩ := hrel
    have HN2 := hid hn2
    clear hn2
    by_cases hlt : j < m
    · have hjl : j < l.length := by rw [← HM.out]; exact hlt
      have t1 : decide (j < m) = true := by simp; omega
      obtain ⟨b, off, rfl, hc⟩ := irange HV.out hjl
      obtain ⟨x, hx⟩ : ∃ x, x = l[j] := ⟨_, rfl⟩
      rw [← hx] at hc
      have HC := hid (HGR.out.cell hc (by simp))
      have PO := hid (punOf_next (k := k) hjl HL.out HA.out)
      rw [← hx] at PO
      obtain ⟨RT, hR⟩ : ∃ R, R = tree k (l.take (j + 1)).reverse := ⟨_, rfl⟩
      rw [← hR] at PO
      have HRq := hid hR
      have i0 : (0 : Int) ≤ (j : Int) := by omega
      have i1 : (j : Int) < (m : Int) := by omega
      clear hc hjl hx hR
      go_wp2
      refine region_tailU (by kernel_rfl) 32 rfl 10 [none, none, none, none, none, none, none, none, some (Sp.new wr.heap.size [.slice none 0 0] 34), none, none, none, none, none, none, none, none, none, some (Sp.punc (RT, (0 : Int))), some (Sp.is (.agg #[.slice a2 n2 c2])), some (Sp.is (.slice (some ⟨b, off, none⟩) m cap)), some (Sp.is (.int .i64 (j : Int))), some (Sp.is (.pointer (some ⟨b, off + j, none⟩))), some (Sp.is (.int .i64 x)), some (Sp.punc (RT, (0 : Int))), some (Sp.tree (RT, (0 : Int))), some (Sp.is (.int .i64 ((RT, (0 : Int))).2)), none, none, none, none, none] (by kernel_rfl) (by kernel_rfl)
        ⟨ob_loadT rfl rfl trivial ⟨by decide, fun _ _ h => h⟩ (fun w' g => loadsAt (tyT (.slice a2 n2 c2) rfl) (rangeAt_row (row_of g HT.out (by simp)))) (fun _ => rfl),
         ob_move 1 20 rfl rfl (by decide) trivial (fun _ _ h => h),
         ob_move 7 21 rfl rfl (by decide) trivial (fun _ _ h => h),
         ob_index (p := .slice (some ⟨b, off, none⟩) m cap) (k := .int .i64 (j : Int)) (v := .pointer (some ⟨b, off + j, none⟩)) rfl rfl trivial ⟨by decide, fun _ _ h => h⟩ ⟨by decide, fun _ _ h => h⟩ (fun _ => by go_simp) (fun _ => rfl),
         ob_loadT rfl rfl trivial ⟨by decide, fun _ _ h => h⟩ (fun w' g => loadsAt (tyI x) (rangeAt_one (g.cell HC.out (by simp)))) (fun _ => rfl),
         ob_callS (Sp.punc (RT, (0 : Int))) [.agg #[.slice a2 n2 c2], .int .i64 x] rfl rfl trivial ⟨⟨by decide, fun _ _ h => h⟩, ⟨by decide, fun _ _ h => h⟩, trivial⟩ (punct_on PO.out HR.out) (fun _ _ h => h) (enter_of Try.func24 (by kernel_rfl) rfl),
         ob_move 24 18 rfl rfl (by decide) trivial (fun _ _ h => h),
         ob_extract rfl rfl (by decide) trivial (fun w u h => punc_tree w u h),
         ob_extract rfl rfl (by decide) trivial (fun w u h => punc_err w u h),
         ob_alloc rfl trivial (Nat.le_refl _) (fun a w => by kernel_rfl) (fun _ _ h => h), trivial⟩
        [8] (by kernel_rfl) (LaysAll.at ⟨.inl rfl, .inl rfl, .inl rfl, .inl rfl, .inl rfl, .inl rfl, .inl rfl, .inl rfl, .inl rfl, .inr ⟨rfl, #[.slice none 0 0], 34, fun a w => by kernel_rfl⟩, trivial⟩) (fun t ht => by simp at ht; subst ht; exact ⟨_, rfl, Sp.new_lt⟩)
        [8] (by kernel_rfl) (fun _ _ d _ _ h => by cases d <;> exact h) (by kernel_rfl) (fun i hi o ho a w hg hl hs => by obtain rfl := List.mem_singleton.1 hi; obtain rfl := Option.some.inj ho; exact pu_extract (n := 32) rfl rfl (by decide) rfl hl (fun w u h => punc_err w u h)) ?_
      intro xx W3 g3 hx _
      obtain ⟨A8, e8, b8, h8⟩ := hx 8 _ rfl (by decide)
      have e19 : xx 19 = .agg #[.slice a2 n2 c2] := hx 19 _ rfl (by decide)
      have e20 : xx 20 = .slice (some ⟨b, off, none⟩) m cap := hx 20 _ rfl (by decide)
      have e21 : xx 21 = .int .i64 (j : Int) := hx 21 _ rfl (by decide)
      have e22 : xx 22 = .pointer (some ⟨b, off + j, none⟩) := hx 22 _ rfl (by decide)
      have e23 : xx 23 = .int .i64 x := hx 23 _ rfl (by decide)
      have e26 : xx 26 = .int .i64 ((RT, (0 : Int))).2 := hx 26 _ rfl (by decide)
      obtain ⟨ao5, cap5, e25, t5⟩ := hx 25 _ rfl (by decide)
      simp only [fillO]
      rw [e8, e19, e20, e21, e22, e23, e25, e26]
      generalize xx 24 = z1 at *
      generalize xx 18 = z2 at *
      have H8 := hid h8
      have NB8 := hid b8
      have T5 := hid t5
      have GG3 := hid g3
      clear hx e8 b8 h8 t5 g3 e19 e20 e21 e22 e23 e25 e26
      simp only [List.drop_succ_cons, List.drop_zero]
      go_wp2_with (first
        | (refine wpList_storeTYg rfl 34 (.tmp 8) (.tmp 25) rfl rfl rfl (tyT (.slice ao5 ((RT, (0 : Int))).1.length cap5) rfl) H8.out rfl ?_; intro W5 g5 h5; have G5 := hid (grown_newR GG3.out g5 NB8.out); have TT5 := hid (And.intro g5 h5); clear g5 h5)
        | (refine wpList_loadTY rfl 34 (.tmp 8) rfl rfl (tyT (.slice ao5 RT.length cap5) rfl) TT5.out.2 ?_)
        | (refine wpList_storeTYg rfl 34 (.tmp 6) (.tmp 30) rfl rfl rfl (tyT (.slice ao5 RT.length cap5) rfl) (row_of G5.out HT.out (by simp)) rfl ?_; intro W6 g6 h6; have G6 := hid g6; have H6 := hid h6; clear g6 h6)
        | fail)
      have NN := hid (show A8 ≠ B from by
        have h1 := (Array.getElem?_eq_some_iff.1 HT.out).1
        have h2 := NB8.out
        omega)
      have HT5 := hid (row_of G5.out HT.out (by simp))
      have HZ5 := hid (row_of G5.out HZ1.out (by simp))
      have RT5 := hid (RdT.aside T5.out H8.out (fun _ _ => by simp) TT5.out.1)
      have NB1 := HBw.out
      try go_frame
      go_roundw
      case rel => exact ⟨j + 1, ao5, RT.length, cap5, by omega, by go_num, by rw [HRq.out], hid (grown_newR (grown_trans HGR.out G5.out) G6.out (by omega)), hid (row_of G6.out HZ5.out (by simp; omega)), H6, hid (by rw [← HRq.out]; exact RdT.aside RT5.out HT5.out (fun _ _ => by simp) G6.out)⟩
      case measure => simp [intOf] <;> omega
    · obtain rfl : j = m := by omega
      have t1 : decide (j < j) = false := by simp
      have HTR := hid (show tree k (l.take j).reverse = tree k l from by rw [List.take_of_length_le (by rw [← HM.out]; exact Nat.le_refl _), tree_rev])
      have cB : wr.cell? ⟨B, 0, none⟩ = some (.slice a2 n2 c2) := by rw [cell_of_row _ _ _ _ _ _ HT.out]; rfl
      have yB := block_lt_of_cell cB
      go_wp2_with (first
        | (refine wpList_loadTY rfl 34 (.tmp 6) rfl rfl (tyT (.slice a2 n2 c2) rfl) HT.out ?_)
        | (refine wpList_storeTYg rfl 34 (.tmp 4) (.tmp 31) rfl rfl rfl (tyT (.slice a2 n2 c2) rfl) HZ1.out rfl ?_; intro W6 g6 h6; have G6 := hid g6; have H6 := hid h6; clear g6 h6)
        | fail)
      have RT6 := RdT.aside HR.out HZ1.out (fun _ _ => by simp) G6.out
      rw [HTR.out] at RT6
      have hn2 := HN2.out
      rw [HTR.out] at hn2
      subst hn2
      exact bodyPost_ret (results_ct (p := 4) (q := 5) (b0 := w.heap.size + 1) rfl rfl rfl (tyT (.slice a2 _ c2) rfl) H6.out) rfl ⟨a2, c2, rfl, RT6, grown_newR HGR.out G6.out (by omega)⟩
end

end Go.Proofs.Yteakoleceoclkaa
