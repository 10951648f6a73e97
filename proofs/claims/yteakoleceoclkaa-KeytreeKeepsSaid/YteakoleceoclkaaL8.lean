/- Key trees: the law KeytreeKeeps. (printed by genlaws.py) -/
import Derived.Test.YteakoleceoclkaaL7
namespace Go.Proofs.Yteakoleceoclkaa
open Go.RowKit Go.Shelf
set_option linter.unusedSimpArgs false
set_option linter.unusedVariables false
attribute [local go_sem] Oper.semAt_some
theorem wpList_buildG {P : Program} {w : World} {ops : Array Oper} {rest : List Oper} {o : Oper} {a : Act} {Q : Exit → Act → World → Prop} (hw : Region.wanted o (yielded ops a.tmps) = true) (t : TypeId) (parts : Array (Nat × Operand)) (ho : o.op = .build t parts)
    (vs : Array (Nat × Value)) (hv : (parts.map fun (i, x) => (i, a.eval x)) = vs) {v : Value} (hr : (Instr.build t vs).run P w = .ok v w) (h : wpList P ops Q rest (a.put o.dst v) w) : wpList P ops Q (o :: rest) a w := by
  refine wpList_onG hw fun K hK => ?_
  unfold Oper.wp execOp
  simp only [ho, hv, Sem.run_bind, Sem.run_pure, Result.andThen_ok, hr]
  exact hK _ _ h
theorem wpList_loadTYG {P : Program} {ops : Array Oper} {rest : List Oper} {o : Oper} {a : Act} {w : World} {Q : Exit → Act → World → Prop} (hw : Region.wanted o (yielded ops a.tmps) = true) (T : TypeId) (x : Operand) (ho : o.op = .load T x)
    {b : Nat} {cs : List Value} {v : Value} {t : TypeId} {fr : Nat × Nat} (hx : a.eval x = .pointer (some ⟨b, 0, none⟩)) (ty : TY P T cs v) (hb : w.heap[b]? = some (.cells cs.toArray t fr))
    (h : wpList P ops Q rest (a.put o.dst v) w) : wpList P ops Q (o :: rest) a w := by
  refine wpList_onG hw fun K hK => ?_
  have hl := ty.loads hb
  unfold ptr at hl
  unfold Oper.wp execOp
  simp only [ho, hx, Sem.run_bind, Sem.run_pure, Result.andThen_ok, hl]
  exact hK _ _ h
theorem dig_ne_same (x : List Nat) (hx : Dg x) (px py : Operand) (w : World) : (do eqGuard .neq 29 px py (dval x) (dval x); binOp .neq 29 (dval x) (dval x) : Sem Value).run Try.prog w = .ok (.bool false) w := by
  have h := (dig_eqb hx hx px py w).2
  simpa using h
theorem dk0 : Dg zero32 := ⟨rfl, by intro x hx; simp [zero32, zs] at hx; omega⟩
set_option maxRecDepth 100000 in
set_option maxHeartbeats 4000000 in
theorem keeps_walk (k : List Nat) (hk : Dg k) (l : List Int) (v : Value) (l2 : List Int) (v2 : Value) (w : World) (hv : Sl w 1 v l.length (ic l)) (hv2 : Sl w 1 v2 l2.length (ic l2)) :
    Calls Try.prog 8 #[dval k, v, v2] w fun e w' => e = .returned (.bool true) ∧ w.grownBy w' none := by
  have HK := hid hk
  obtain ⟨az, capz, rfl, pz1, pz2⟩ := hv2.shape
  have HV2 := hid hv2
  obtain ⟨m2, hm2⟩ : ∃ m, m = l2.length := ⟨_, rfl⟩
  have HM2 := hid hm2
  rw [← hm2] at HV2 pz1 ⊢
  clear hv2 hm2
  obtain ⟨A, hA⟩ : ∃ A, A = difs 6 [] l := ⟨_, rfl⟩
  have HAA := hid (show ∀ a ∈ A, isAddr a = true by rw [hA]; exact difs_addr 6 l [] (by simp))
  have hAl : A.length ≤ 6 := by rw [hA]; exact difs_len 6 l [] (by simp)
  have HAL := hid (show A.length ≤ 800 by omega)
  have HND := hid (show A.Nodup by rw [hA]; exact difs_nodup 6 l [] List.nodup_nil)
  have DC := hid (fun (W : World) (g : w.grownBy W none) => (show Calls Try.prog 28 #[v, .int .i64 6] W fun e w' => ∃ ao cap, e = .returned (.slice ao A.length cap) ∧ Own w' 2 1 (.slice ao A.length cap) A.length (ic A) ∧ Fresh W w' (.slice ao A.length cap) from by
    subst hA
    exact different_walk l v 6 (by decide) W (hv.kn g) (by obtain ⟨_, _, _, h1, h2⟩ := hv.shape; omega)))
  have PC := hid (fun (W : World) (s : Value) (h : Sl W 1 s A.length (ic A)) => punctured_walk k hk A s W h (by omega) HAA.out)
  obtain ⟨C, hC⟩ : ∃ C, C = bv k := ⟨_, rfl⟩
  have TD := hid (show TY Try.prog 29 C (.agg C.toArray) by rw [hC]; exact tyD k hk.1)
  have NC := hid (fun W => new_call (w := W) hk)
  unfold dval at NC PC ⊢
  rw [← hC] at NC PC ⊢
  obtain ⟨m, hm⟩ : ∃ m, m = A.length := ⟨_, rfl⟩
  rw [← hm] at PC DC hAl
  have HM := hid hm
  clear hk hA hC hm
  go_enter Try.func8, Try.ntmps8
  refine wp_seq_k fun K0 k0 => ?_
  have HK0 := hid k0
  clear k0
  go_wp2
  refine HK0.out _ _ ?_
  clear HK0
  refine pauseB1 fun W GW B0 => ?_
  refine wp_seq_k fun K1 k1 => ?_
  have HK1 := hid k1
  clear k1
  go_wp2_with fail
  refine (DC.out _ GW.out).mono ?_
  rintro e W1 ⟨ao1, cap1, rfl, h1, h2⟩
  have OA := hid h1
  have FA := hid (Fresh.after GW.out h2)
  replace B0 := hid (row_of h2.none B0.out (by simp))
  clear h1 h2 DC GW
  go_wp2_with fail
  refine HK1.out _ _ ?_
  clear HK1
  refine wp_seq_k fun K2 k2 => ?_
  have HK2 := hid k2
  clear k2
  go_wp2_with (first
    | (refine wpList_loadTY rfl 29 (.tmp 3) rfl rfl TD.out B0.out ?_)
    | fail)
  refine (PC.out _ _ (Sl.of_own OA.out)).mono ?_
  rintro e W2 ⟨ao2, cap2, rfl, h2, g2⟩
  obtain ⟨n2, hn2⟩ : ∃ n, n = (tree k A).length := ⟨_, rfl⟩
  rw [← hn2] at h2 ⊢
  have T2 := hid h2
  have HN2 := hid hn2
  replace OA := hid (OA.out.kn g2)
  replace FA := hid (Fresh.then_ FA.out g2)
  replace B0 := hid (row_of g2 B0.out (by simp))
  clear h2 g2 hn2
  obtain ⟨B, hB⟩ : ∃ x, x = W2.heap.size := ⟨_, rfl⟩
  have HBq := hid hB
  clear hB
  go_wp2_with (first
    | (refine wpList_storeTYg rfl 34 (.tmp 8) (.tmp 27) rfl rfl rfl (tyT (.slice ao2 n2 cap2) rfl) (heap_at rfl) rfl ?_; intro W3 g3 h3; rw [← HBq.out] at h3; have G3 := hid (grown_newR (World.grownBy_alloc W2 _ none) g3 (Nat.le_refl _)); have HB := hid h3; clear g3 h3)
    | fail)
  try go_frame
  rw [← HBq.out]
  replace T2 := hid (T2.out.kn G3.out)
  replace OA := hid (OA.out.kn G3.out)
  replace FA := hid (Fresh.then_ FA.out G3.out)
  replace B0 := hid (row_of G3.out B0.out (by simp))
  clear G3 HBq PC W1
  refine HK2.out _ _ ?_
  clear HK2
  have LF := hid (fun (x : Int) (hx : x ∈ A) => (show leafOf (tree k A) x = (zero32, 10) by rw [leaf_tree k A x (tree_vld_of k A (by have := HAL.out; omega)) (HAA.out x hx), if_pos hx]))
  obtain ⟨ZC, hZ⟩ : ∃ Z, Z = bv zero32 := ⟨_, rfl⟩
  have ZT := hid (show TY Try.prog 29 ZC (.agg ZC.toArray) by rw [hZ]; exact tyD zero32 dk0.1)
  have ZL := hid (show ZC.length = 32 by rw [hZ]; rfl)
  have ZE := hid (show ∀ px py W, (do eqGuard .neq 29 px py (.agg ZC.toArray) (.agg ZC.toArray); binOp .neq 29 (.agg ZC.toArray) (.agg ZC.toArray) : Sem Value).run Try.prog W = .ok (.bool false) W by rw [hZ]; exact dig_ne_same zero32 dk0)
  have ZB := hid (show ∀ W, (Instr.build 29 #[]).run Try.prog W = .ok (.agg ZC.toArray) W by rw [hZ]; exact bD0)
  have LC := hid (fun (x : Int) (hx : x ∈ A) (W : World) (s : Value) (h : RdT W s (tree k A)) => (show Calls Try.prog 20 #[.agg #[s], .int .i64 x] W fun e w' => e = .returned (.tuple #[.agg ZC.toArray, .int .i64 10]) ∧ W.grownBy w' none by
    have h1 := leaf_call (LF.out x hx) h
    unfold dval at h1
    rw [← hZ] at h1
    exact h1))
  clear hZ
  have t0 : decide (n2 = n2) = true := by simp
  refine wp_seq_k fun K3 k3 => ?_
  have HK3 := hid k3
  clear k3
  go_wp2
  refine HK3.out _ _ ?_
  clear HK3
  refine wp_seq_k fun K4 k4 => ?_
  have HK4 := hid k4
  clear k4
  go_wp2
  go_loopw [10, 11, 12] (fun i p q wr => ∃ j : Nat, j ≤ m ∧ i = .int .i64 j ∧ Hid (w.grownBy wr none) ∧ Hid (wr.heap[B]? = some (.cells #[.slice ao2 n2 cap2] 34 (0, 0))) ∧ Hid (RdT wr (.slice ao2 n2 cap2) (tree k A)) ∧ Hid (Sl wr 1 (.slice ao1 m cap1) m (ic A)) ∧ Hid (wr.heap[w.heap.size]? = some (.cells C.toArray 29 (0, 0)))) (fun i _ _ _ => (m - intOf i).toNat)
  case atStart => exact ⟨0, by omega, rfl, hid FA.out.none, HB, T2, hid (Sl.of_own OA.out), B0⟩
  case round =>
    clear HB T2 OA FA B0
    obtain ⟨j, hj, rfl, HGR, HT, HR, HV, HB0⟩ := hrel
    by_cases hlt : j < m
    · have hjl : j < A.length := by rw [← HM.out]; exact hlt
      have t1 : decide (j < m) = true := by simp; omega
      obtain ⟨b, off, rfl, hc⟩ := irange (show Sl wr 1 (.slice ao1 A.length cap1) A.length (ic A) by rw [← HM.out]; exact HV.out) hjl
      have HX := hid (List.getElem_mem hjl)
      obtain ⟨x, hx⟩ : ∃ x, x = A[j] := ⟨_, rfl⟩
      rw [← hx] at hc HX
      have HC := hid hc
      have LX := hid (LC.out x HX.out)
      obtain ⟨RT, hR⟩ : ∃ R, R = tree k A := ⟨_, rfl⟩
      rw [← hR] at HR LX
      have HRq := hid hR
      have i0 : (0 : Int) ≤ (j : Int) := by omega
      have i1 : (j : Int) < (m : Int) := by omega
      clear hc hjl hx hR
      go_wp2
      refine region_tailU (by kernel_rfl) 119 rfl 10 [none, none, none, none, none, none, none, none, none, none, none, some (Sp.new wr.heap.size (bv zero32) 29), none, none, none, none, none, none, none, none, none, none, none, none, none, none, none, none, none, none, none, none, none, none, none, none, none, some (Sp.is (.tuple #[.agg ZC.toArray, .int .i64 10])), some (Sp.is (.agg #[.slice ao2 n2 cap2])), some (Sp.is (.slice (some ⟨b, off, none⟩) m cap1)), some (Sp.is (.int .i64 (j : Int))), some (Sp.is (.pointer (some ⟨b, off + j, none⟩))), some (Sp.is (.int .i64 x)), some (Sp.is (.tuple #[.agg ZC.toArray, .int .i64 10])), some (Sp.is (.agg ZC.toArray)), some (Sp.is (.int .i64 10)), none, none, none, none, none, none, none, none, none, none, none, none, none, none, none, none, none, none, none, none, none, none, none, none, none, none, none, none, none, none, none, none, none, none, none, none, none, none, none, none, none, none, none, none, none, none, none, none, none, none, none, none, none, none, none, none, none, none, none, none, none, none, none, none, none, none, none, none, none, none, none, none, none] (by kernel_rfl) (by kernel_rfl)
        ⟨ob_loadT rfl rfl trivial ⟨by decide, fun _ _ h => h⟩ (fun w' g => loadsAt (tyT (.slice ao2 n2 cap2) rfl) (rangeAt_row (row_of g HT.out (by simp)))) (fun _ => rfl),
         ob_move 7 39 rfl rfl (by decide) trivial (fun _ _ h => h),
         ob_move 10 40 rfl rfl (by decide) trivial (fun _ _ h => h),
         ob_index (p := .slice (some ⟨b, off, none⟩) m cap1) (k := .int .i64 (j : Int)) (v := .pointer (some ⟨b, off + j, none⟩)) rfl rfl trivial ⟨by decide, fun _ _ h => h⟩ ⟨by decide, fun _ _ h => h⟩ (fun _ => by go_simp) (fun _ => rfl),
         ob_loadT rfl rfl trivial ⟨by decide, fun _ _ h => h⟩ (fun w' g => loadsAt (tyI x) (rangeAt_one (g.cell HC.out (by simp)))) (fun _ => rfl),
         ob_callS (Sp.is (.tuple #[.agg ZC.toArray, .int .i64 10])) [.agg #[.slice ao2 n2 cap2], .int .i64 x] rfl rfl trivial ⟨⟨by decide, fun _ _ h => h⟩, ⟨by decide, fun _ _ h => h⟩, trivial⟩ (fun W g => (LX.out W _ (HR.out.kn g)).mono fun e w' h => ⟨_, h.1, h.2, rfl⟩) (fun _ _ h => h) (enter_of Try.func20 (by kernel_rfl) rfl),
         ob_move 43 37 rfl rfl (by decide) trivial (fun _ _ h => h),
         ob_extract rfl rfl (by decide) trivial (fun w u h => ⟨_, _, h, rfl, rfl⟩),
         ob_extract rfl rfl (by decide) trivial (fun w u h => ⟨_, _, h, rfl, rfl⟩),
         ob_alloc rfl trivial (Nat.le_refl _) (fun a w => by kernel_rfl) (fun _ _ h => h), trivial⟩
        [11] (by kernel_rfl) (LaysAll.at ⟨.inl rfl, .inl rfl, .inl rfl, .inl rfl, .inl rfl, .inl rfl, .inl rfl, .inl rfl, .inl rfl, .inr ⟨rfl, (bv zero32).toArray, 29, fun a w => by kernel_rfl⟩, trivial⟩) (fun t ht => by simp at ht; subst ht; exact ⟨_, rfl, Sp.new_lt⟩)
        [8] (by kernel_rfl) (fun _ _ d _ _ h => by cases d <;> exact h) (by kernel_rfl) (fun i hi o ho a w hg hl hs => by obtain rfl := List.mem_singleton.1 hi; obtain rfl := Option.some.inj ho; exact pu_extract (n := 119) rfl rfl (by decide) rfl hl (fun w u h => ⟨_, _, h, rfl, rfl⟩)) ?_
      intro xx W3 g3 hx _
      obtain ⟨A8, e8, b8, h8⟩ := hx 11 _ rfl (by decide)
      have e38 : xx 38 = .agg #[.slice ao2 n2 cap2] := hx 38 _ rfl (by decide)
      have e39 : xx 39 = .slice (some ⟨b, off, none⟩) m cap1 := hx 39 _ rfl (by decide)
      have e40 : xx 40 = .int .i64 (j : Int) := hx 40 _ rfl (by decide)
      have e41 : xx 41 = .pointer (some ⟨b, off + j, none⟩) := hx 41 _ rfl (by decide)
      have e42 : xx 42 = .int .i64 x := hx 42 _ rfl (by decide)
      have e43 : xx 43 = .tuple #[.agg ZC.toArray, .int .i64 10] := hx 43 _ rfl (by decide)
      have e37 : xx 37 = .tuple #[.agg ZC.toArray, .int .i64 10] := hx 37 _ rfl (by decide)
      have e44 : xx 44 = .agg ZC.toArray := hx 44 _ rfl (by decide)
      have e45 : xx 45 = .int .i64 10 := hx 45 _ rfl (by decide)
      simp only [fillO]
      rw [e8, e38, e39, e40, e41, e42, e43, e37, e44, e45]
      have H8 := hid h8
      have NB8 := hid b8
      have GG3 := hid g3
      clear hx e8 b8 h8 g3 e38 e39 e40 e41 e42 e43 e37 e44 e45
      simp only [List.drop_succ_cons, List.drop_zero]
      go_wp2_with (first
        | (refine wpList_storeTYg rfl 29 (.tmp 11) (.tmp 44) rfl rfl rfl ZT.out H8.out (by rw [ZL.out]; rfl) ?_; intro W5 g5 h5; have G5 := hid (grown_newR GG3.out g5 NB8.out); have TT5 := hid (And.intro g5 h5); clear g5 h5)
        | (refine wpList_loadTYG rfl 29 (.tmp 11) rfl rfl ZT.out TT5.out.2 ?_)
        | (refine wpList_buildG rfl 29 _ rfl #[] (by simp) (ZB.out _) ?_)
        | (refine wpList_binG rfl .neq 29 29 (.tmp 49) (.tmp 50) rfl rfl rfl (ZE.out _ _ _) ?_)
        | fail)
      try go_frame
      go_roundw
      case rel => exact ⟨j + 1, by omega, by go_num, hid (grown_trans HGR.out G5.out), hid (row_of G5.out HT.out (by simp)), hid (by rw [← HRq.out]; exact HR.out.kn G5.out), hid (HV.out.kn G5.out), hid (row_of G5.out HB0.out (by simp))⟩
      case measure => simp [intOf] <;> omega
    · obtain rfl : m = j := by omega
      have t1 : decide (m < m) = false := by simp
      go_wp2
      refine HK4.out _ _ ?_
      clear HK4
      refine wp_seq_k fun K6 k6 => ?_
      have HK6 := hid k6
      clear k6
      go_wp2
      go_loopw [13, 14, 15, 16, 17, 18, 19, 20] (fun i p q r s t u v wq => ∃ j : Nat, j ≤ m2 ∧ i = .int .i64 j ∧ Hid (w.grownBy wq none) ∧ Hid (wq.heap[B]? = some (.cells #[.slice ao2 n2 cap2] 34 (0, 0))) ∧ Hid (RdT wq (.slice ao2 n2 cap2) (tree k A)) ∧ Hid (Sl wq 1 (.slice ao1 m cap1) m (ic A)) ∧ Hid (wq.heap[w.heap.size]? = some (.cells C.toArray 29 (0, 0)))) (fun i _ _ _ _ _ _ _ _ => (m2 - intOf i).toNat)
      case atStart => exact ⟨0, by omega, rfl, HGR, HT, HR, HV, HB0⟩
      case round =>
        clear HGR HT HR HV HB0
        obtain ⟨j, hj, rfl, HGR, HT, HR, HV, HB0⟩ := hrel
        by_cases hlt : j < m2
        · by_cases hl5 : j < 5
          · have t1 : decide ((j : Int) < (m2 : Int)) = true := by simp; omega
            have t2 : decide ((j : Int) < 5) = true := by simp; omega
            have hjl : j < l2.length := by rw [← HM2.out]; exact hlt
            obtain ⟨b, off, rfl, hc⟩ := irange (show Sl w 1 (.slice az l2.length capz) l2.length (ic l2) by rw [← HM2.out]; exact HV2.out) hjl
            obtain ⟨y, hy⟩ : ∃ y, y = l2[j] := ⟨_, rfl⟩
            rw [← hy] at hc
            have hc2 := HGR.out.cell hc (by simp)
            have hcy := block_lt_of_cell hc2
            obtain ⟨N, hN⟩ : ∃ N, N = adr y := ⟨_, rfl⟩
            have HA := hid (fun W => adr_walk y W)
            rw [← hN] at HA
            have NA := hid (show isAddr N = true by rw [hN]; exact adr_isAddr y)
            have i0 : (0 : Int) ≤ (j : Int) := by omega
            have i1 : (j : Int) < (m2 : Int) := by omega
            clear hc hjl hy hN
            have HAM := hid (fun (W : World) (hr : w.grownBy W none → True) => trivial)
            clear HAM
            have LN := hid (fun (W : World) (s : Value) (h : RdT W s (tree k [])) => leaf_call (rfl : leafOf (tree k []) N = _) h)
            have DG0 := hid (leafOf_dg (tree_ok HK.out) N (l := tree k []))
            have LE := leaf_tree k [] N (tree_vld_of k [] (by simp)) NA.out
            rw [if_neg (by simp)] at LE
            rw [LE] at LN DG0
            clear LE
            obtain ⟨D, hD⟩ : ∃ D, D = (desc N 34 (root k)).k := ⟨_, rfl⟩
            have HD := hid hD
            rw [← hD] at LN DG0
            clear hD
            obtain ⟨DC, hDC⟩ : ∃ x, x = bv D := ⟨_, rfl⟩
            have DT := hid (show TY Try.prog 29 DC (.agg DC.toArray) by rw [hDC]; exact tyD D DG0.out.1)
            have DL := hid (show DC.length = 32 by rw [hDC, bv_length]; exact DG0.out.1)
            have DE := hid (show ∀ px py W, (do eqGuard .neq 29 px py (.agg DC.toArray) (.agg DC.toArray); binOp .neq 29 (.agg DC.toArray) (.agg DC.toArray) : Sem Value).run Try.prog W = .ok (.bool false) W by rw [hDC]; exact dig_ne_same D DG0.out)
            have LO := hid (fun (hn : N ∉ A) (W : World) (s : Value) (h : RdT W s (tree k A)) => (show Calls Try.prog 20 #[.agg #[s], .int .i64 N] W fun e w' => e = .returned (.tuple #[.agg DC.toArray, .int .i64 0]) ∧ W.grownBy w' none by
              have h2 : leafOf (tree k A) N = (D, 0) := by rw [leaf_tree k A N (tree_vld_of k A (by have := HAL.out; omega)) NA.out, if_neg hn, HD.out]
              have h1 := leaf_call h2 h
              unfold dval at h1
              rw [← hDC] at h1
              exact h1))
            unfold dval at LN
            rw [← hDC] at LN
            clear hDC
            go_wp2_with fail
            refine (HA.out _).mono ?_
            rintro e W3 ⟨rfl, rfl⟩
            clear hc2 hcy
            obtain ⟨wo, rfl⟩ : ∃ wo : World, wo = W3 := ⟨_, rfl⟩
            go_wp2
            go_loopw [15, 16] (fun g i wq => ∃ q : Nat, q ≤ m ∧ i = .int .i64 q ∧ g = .bool (decide (N ∈ A.take q)) ∧ wq = wo) (fun _ i _ => (m - intOf i).toNat)
            case atStart => exact ⟨0, by omega, rfl, by simp, rfl⟩
            case round =>
              obtain ⟨q, hq, rfl, rfl, rfl⟩ := hrel
              by_cases hqm : q < m
              · have t3 : decide ((q : Int) < (m : Int)) = true := by simp; omega
                have hql : q < A.length := by rw [← HM.out]; exact hqm
                by_cases hin : N ∈ A.take q
                · have hb : decide (N ∈ A.take q) = true := decide_eq_true hin
                  have HB2 := hid (show decide (N ∈ A.take (q + 1)) = true from decide_eq_true ((mem_take_succ hql N).2 (.inl hin)))
                  rw [hb]
                  clear hb hin hql
                  go_wp2
                  go_roundw
                  case rel => exact ⟨q + 1, by omega, by go_num, by rw [HB2.out], (by first | rfl | trivial)⟩
                  case measure => simp [intOf] <;> omega
                · have hb : decide (N ∈ A.take q) = false := decide_eq_false hin
                  rw [hb]
                  obtain ⟨b3, off3, rfl, hc3⟩ := irange (show Sl _ 1 (.slice ao1 A.length cap1) A.length (ic A) by rw [← HM.out]; exact HV.out) hql
                  obtain ⟨z, hz⟩ : ∃ z, z = A[q] := ⟨_, rfl⟩
                  rw [← hz] at hc3
                  have y3 := block_lt_of_cell hc3
                  have j0 : (0 : Int) ≤ (q : Int) := by omega
                  have j1 : (q : Int) < (m : Int) := by omega
                  have HQ := hid (show decide (N ∈ A.take (q + 1)) = decide (z = N) from by
                    rw [Bool.eq_iff_iff, decide_eq_true_iff, decide_eq_true_iff, mem_take_succ hql N, hz]
                    exact ⟨fun h => h.elim (fun h => absurd h hin) id, .inr⟩)
                  clear hb hin hz hql
                  by_cases hzN : z = N
                  · have t4 : (z == N) = true := by simpa using hzN
                    have HQ2 := hid (show decide (N ∈ A.take (q + 1)) = true from by rw [HQ.out]; exact decide_eq_true hzN)
                    clear hzN
                    go_wp2
                    go_roundw
                    case rel => exact ⟨q + 1, by omega, by go_num, by rw [HQ2.out], (by first | rfl | trivial)⟩
                    case measure => simp [intOf] <;> omega
                  · have t4 : (z == N) = false := by simpa using hzN
                    have HQ2 := hid (show decide (N ∈ A.take (q + 1)) = false from by rw [HQ.out]; exact decide_eq_false hzN)
                    clear hzN
                    go_wp2
                    go_roundw
                    case rel => exact ⟨q + 1, by omega, by go_num, by rw [HQ2.out], (by first | rfl | trivial)⟩
                    case measure => simp [intOf] <;> omega
              · obtain rfl : m = q := by omega
                have t3 : decide ((m : Int) < (m : Int)) = false := by simp
                have HTK := hid (show A.take m = A from List.take_of_length_le (by rw [← HM.out]; exact Nat.le_refl _))
                rw [HTK.out]
                by_cases hin : N ∈ A
                · rw [decide_eq_true hin]
                  have LA := hid (LC.out N hin)
                  clear hin
                  have c8 : wr.cell? ⟨B, 0, none⟩ = some (.slice ao2 n2 cap2) := by rw [cell_of_row _ _ _ _ _ _ HT.out]; rfl
                  have y8 := block_lt_of_cell c8
                  go_wp2_with fail
                  refine (LA.out wr _ HR.out).mono ?_
                  rintro e W4 ⟨rfl, g4⟩
                  replace HGR := hid (grown_trans HGR.out g4)
                  replace HT := hid (row_of g4 HT.out (by simp))
                  replace HR := hid (HR.out.kn g4)
                  replace HV := hid (HV.out.kn g4)
                  replace HB0 := hid (row_of g4 HB0.out (by simp))
                  clear c8 y8 g4
                  obtain ⟨B7, hB7⟩ : ∃ x, x = W4.heap.size := ⟨_, rfl⟩
                  have HB7 := hid hB7
                  clear hB7
                  go_wp2_with (first
                    | (refine wpList_storeTYg rfl 29 (.tmp 17) (.tmp 87) rfl rfl rfl ZT.out (heap_at rfl) (by rw [ZL.out]; rfl) ?_; intro W5 g3 h3; rw [← HB7.out] at h3; have G5 := hid (grown_newR (World.grownBy_alloc W4 _ none) g3 (Nat.le_refl _)); have H7 := hid h3; clear g3 h3)
                    | (refine wpList_loadTYG rfl 29 (.tmp 3) rfl rfl TD.out (row_of G5.out HB0.out (by simp)) ?_)
                    | fail)
                  try rw [← HB7.out]
                  refine (NC.out _).mono ?_
                  rintro e W6 ⟨ao6, cap6, rfl, h6, g6⟩
                  replace HGR := hid (grown_trans (grown_trans HGR.out G5.out) g6)
                  replace HT := hid (row_of g6 (row_of G5.out HT.out (by simp)) (by simp))
                  replace HR := hid ((HR.out.kn G5.out).kn g6)
                  replace HV := hid ((HV.out.kn G5.out).kn g6)
                  replace HB0 := hid (row_of g6 (row_of G5.out HB0.out (by simp)) (by simp))
                  replace H7 := hid (row_of g6 H7.out (by simp))
                  have T6 := hid h6
                  clear g6 h6 G5
                  go_wp2_with fail
                  refine (LN.out _ _ T6.out).mono ?_
                  rintro e W7 ⟨rfl, g7⟩
                  replace HGR := hid (grown_trans HGR.out g7)
                  replace HT := hid (row_of g7 HT.out (by simp))
                  replace HR := hid (HR.out.kn g7)
                  replace HV := hid (HV.out.kn g7)
                  replace HB0 := hid (row_of g7 HB0.out (by simp))
                  replace H7 := hid (row_of g7 H7.out (by simp))
                  clear g7 T6
                  go_wp2_with (first
                    | (refine wpList_storeTYg rfl 29 (.tmp 19) (.tmp 94) rfl rfl rfl DT.out (heap_at rfl) (by rw [DL.out]; rfl) ?_; intro W8 g3 h3; have G8 := hid (grown_newR (World.grownBy_alloc W7 _ none) g3 (Nat.le_refl _)); have H9 := hid h3; clear g3 h3)
                    | fail)
                  try go_frame
                  go_roundw
                  case rel => exact ⟨j + 1, by omega, by go_num, hid (grown_trans HGR.out G8.out), hid (row_of G8.out HT.out (by simp)), hid (HR.out.kn G8.out), hid (HV.out.kn G8.out), hid (row_of G8.out HB0.out (by simp))⟩
                  case measure => simp [intOf] <;> omega
                · rw [decide_eq_false hin]
                  have LA := hid (LO.out hin)
                  clear hin
                  have c8 : wr.cell? ⟨B, 0, none⟩ = some (.slice ao2 n2 cap2) := by rw [cell_of_row _ _ _ _ _ _ HT.out]; rfl
                  have y8 := block_lt_of_cell c8
                  go_wp2_with fail
                  refine (LA.out wr _ HR.out).mono ?_
                  rintro e W4 ⟨rfl, g4⟩
                  replace HGR := hid (grown_trans HGR.out g4)
                  replace HT := hid (row_of g4 HT.out (by simp))
                  replace HR := hid (HR.out.kn g4)
                  replace HV := hid (HV.out.kn g4)
                  replace HB0 := hid (row_of g4 HB0.out (by simp))
                  clear c8 y8 g4
                  obtain ⟨B7, hB7⟩ : ∃ x, x = W4.heap.size := ⟨_, rfl⟩
                  have HB7 := hid hB7
                  clear hB7
                  go_wp2_with (first
                    | (refine wpList_storeTYg rfl 29 (.tmp 17) (.tmp 87) rfl rfl rfl DT.out (heap_at rfl) (by rw [DL.out]; rfl) ?_; intro W5 g3 h3; rw [← HB7.out] at h3; have G5 := hid (grown_newR (World.grownBy_alloc W4 _ none) g3 (Nat.le_refl _)); have H7 := hid h3; clear g3 h3)
                    | (refine wpList_loadTYG rfl 29 (.tmp 3) rfl rfl TD.out (row_of G5.out HB0.out (by simp)) ?_)
                    | fail)
                  try rw [← HB7.out]
                  refine (NC.out _).mono ?_
                  rintro e W6 ⟨ao6, cap6, rfl, h6, g6⟩
                  replace HGR := hid (grown_trans (grown_trans HGR.out G5.out) g6)
                  replace HT := hid (row_of g6 (row_of G5.out HT.out (by simp)) (by simp))
                  replace HR := hid ((HR.out.kn G5.out).kn g6)
                  replace HV := hid ((HV.out.kn G5.out).kn g6)
                  replace HB0 := hid (row_of g6 (row_of G5.out HB0.out (by simp)) (by simp))
                  replace H7 := hid (row_of g6 H7.out (by simp))
                  have T6 := hid h6
                  clear g6 h6 G5
                  go_wp2_with fail
                  refine (LN.out _ _ T6.out).mono ?_
                  rintro e W7 ⟨rfl, g7⟩
                  replace HGR := hid (grown_trans HGR.out g7)
                  replace HT := hid (row_of g7 HT.out (by simp))
                  replace HR := hid (HR.out.kn g7)
                  replace HV := hid (HV.out.kn g7)
                  replace HB0 := hid (row_of g7 HB0.out (by simp))
                  replace H7 := hid (row_of g7 H7.out (by simp))
                  clear g7 T6
                  go_wp2_with (first
                    | (refine wpList_storeTYg rfl 29 (.tmp 19) (.tmp 94) rfl rfl rfl DT.out (heap_at rfl) (by rw [DL.out]; rfl) ?_; intro W8 g3 h3; have G8 := hid (grown_newR (World.grownBy_alloc W7 _ none) g3 (Nat.le_refl _)); have H9 := hid h3; clear g3 h3)
                    | (refine wpList_loadTYG (by kernel_rfl) 29 (.tmp 17) rfl rfl DT.out (row_of G8.out H7.out (by simp)) ?_)
                    | (refine wpList_loadTYG (by kernel_rfl) 29 (.tmp 19) rfl rfl DT.out H9.out ?_)
                    | (refine wpList_binG (vx := .agg DC.toArray) (vy := .agg DC.toArray) (by kernel_rfl) .neq 29 29 (.tmp 112) (.tmp 113) rfl (by kernel_rfl) (by kernel_rfl) (DE.out _ _ _) ?_)
                    | fail)
                  try go_frame
                  go_roundw
                  case rel => exact ⟨j + 1, by omega, by go_num, hid (grown_trans HGR.out G8.out), hid (row_of G8.out HT.out (by simp)), hid (HR.out.kn G8.out), hid (HV.out.kn G8.out), hid (row_of G8.out HB0.out (by simp))⟩
                  case measure => simp [intOf] <;> omega
          · have t1 : decide ((j : Int) < (m2 : Int)) = true := by simp; omega
            have t2 : decide ((j : Int) < 5) = false := by simp; omega
            go_wp2
            refine HK6.out _ _ ?_
            clear HK6
            go_wp2_with fail
            refine (awake_walk _).mono ?_
            rintro e W9 ⟨rfl, g9⟩
            go_wp2
            go_ret
            exact ⟨rfl, grown_trans HGR.out g9⟩
        · obtain rfl : j = m2 := by omega
          have t1 : decide ((j : Int) < (j : Int)) = false := by simp
          go_wp2
          refine HK6.out _ _ ?_
          clear HK6
          go_wp2_with fail
          refine (awake_walk _).mono ?_
          rintro e W9 ⟨rfl, g9⟩
          go_wp2
          go_ret
          exact ⟨rfl, grown_trans HGR.out g9⟩
end Go.Proofs.Yteakoleceoclkaa
