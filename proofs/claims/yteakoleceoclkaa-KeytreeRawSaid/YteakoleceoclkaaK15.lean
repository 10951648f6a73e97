/- Key trees: Leaf of the reference. -/
import Derived.Test.YteakoleceoclkaaK14
import Derived.Test.YteakoleceoclkaaK12
namespace Go.Proofs.Yteakoleceoclkaa
open Go.RowKit Go.Shelf
set_option linter.unusedSimpArgs false
set_option linter.unusedVariables false
attribute [local go_sem] Oper.semAt_some

theorem results_ct {P : Program} {fn : Func} {p q : Tmp} {T : TypeId} (h : fn.results = #[.cell p T, .tmp q]) {tmps : Array Value} {w : World} {b0 : Nat} {c0 : List Value} {v0 v1 : Value} {fr0 : Nat × Nat} {u0 : TypeId}
    (hp : tmps.getD p undef = ptr b0) (hq : tmps.getD q undef = v1) (t0 : TY P T c0 v0) (h0 : w.heap[b0]? = some (.cells c0.toArray u0 fr0)) :
    (results fn tmps).run P w = .ok (.tuple #[v0, v1]) w := by
  have e0 := t0.load w b0 0 (rangeAt_row h0)
  have hp' : tmps[p]?.getD undef = .pointer (some ⟨b0, 0, none⟩) := by simpa [ptr] using hp
  have hq' : tmps[q]?.getD undef = v1 := by simpa using hq
  simp [results, h, hp', hq', asAddr, e0]
theorem find_congr_mem {α : Type} {p q : α → Bool} : ∀ {l : List α}, (∀ x ∈ l, p x = q x) → l.find? p = l.find? q := by
  intro l
  induction l with
  | nil => intro _; rfl
  | cons x l ih =>
    intro h
    rw [List.find?_cons, List.find?_cons, h x (List.mem_cons.2 (.inl rfl)), ih fun y hy => h y (List.mem_cons.2 (.inr hy))]
theorem vld_ok {l : List Nd} (hv : vld l = true) : ∀ n ∈ l, okN n = true := fun n hn => by
  obtain ⟨_, e, he⟩ := vld_run hv
  exact (run_all he n hn).1
theorem find_hasA {l : List Nd} (hv : vld l = true) (a : Int) : l.find? (hasA a) = l.find? (fun n => cov n a) :=
  find_congr_mem fun n hn => hasA_cov (vld_ok hv n hn)
theorem isAddr_iff {a : Int} : isAddr a = true ↔ 0 ≤ a ∧ a < 17179869184 := by unfold isAddr; simp
set_option maxRecDepth 100000 in
set_option maxHeartbeats 4000000 in
theorem rleaf_walk (l : List NdK) (s : Value) (a : Int) (w : World) (hR : RdL w s l) :
    Calls Try.prog 22 #[.agg #[s], .int .i64 a] w fun e w' => e = .returned (.tuple #[dval (leafOf (l.map (·.1)) a).1, .int .i64 (leafOf (l.map (·.1)) a).2]) ∧ w.grownBy w' none := by
  obtain ⟨ao, cap, rfl, p1, p2⟩ := hR.shape
  have HR := hid hR
  obtain ⟨gl, hgl⟩ : ∃ v, v = leafOf (l.map (·.1)) a := ⟨_, rfl⟩
  rw [← hgl]
  have HV := hid hgl
  obtain ⟨m, hm⟩ : ∃ m, m = l.length := ⟨_, rfl⟩
  have hm0 : m ≤ 1099511627776 := by rw [hm]; exact hR.2.2
  rw [← hm] at HR p1 ⊢
  have HM := hid hm
  obtain ⟨w0, hw0⟩ : ∃ x, x = (w.alloc (.cells #[.slice ao m cap] 34)).alloc (.cells (bv zero32).toArray 29) := ⟨_, rfl⟩
  have HG0 := hid (show w.grownBy w0 none by rw [hw0]; exact grown_trans (World.grownBy_alloc _ _ _) (World.grownBy_alloc _ _ _))
  have Z0 := hid (show w0.heap[w.heap.size]? = some (.cells #[.slice ao m cap] 34 (0, 0)) by rw [hw0, heap_past (by simp <;> omega), heap_at (by simp <;> omega)])
  have Z1 := hid (show w0.heap[w.heap.size + 1]? = some (.cells (bv zero32).toArray 29 (0, 0)) by rw [hw0, heap_at (by simp)])
  have HS0 := hid (show w0.heap.size = w.heap.size + 2 by rw [hw0]; simp)
  have HW0 := hid hw0
  clear hR hgl hm hw0
  go_enter Try.func22, Try.ntmps22
  refine wp_seq_k fun K0 k0 => ?_
  have HK0 := hid k0
  clear k0
  go_wp2
  refine HK0.out _ _ ?_
  clear HK0
  have hbv : (#[.int .u8 0, .int .u8 0, .int .u8 0, .int .u8 0, .int .u8 0, .int .u8 0, .int .u8 0, .int .u8 0, .int .u8 0, .int .u8 0, .int .u8 0, .int .u8 0, .int .u8 0, .int .u8 0, .int .u8 0, .int .u8 0, .int .u8 0, .int .u8 0, .int .u8 0, .int .u8 0, .int .u8 0, .int .u8 0, .int .u8 0, .int .u8 0, .int .u8 0, .int .u8 0, .int .u8 0, .int .u8 0, .int .u8 0, .int .u8 0, .int .u8 0, .int .u8 0] : Array Value) = (bv zero32).toArray := by kernel_rfl
  rw [hbv, ← HW0.out]
  clear hbv HW0
  have c0 : w0.cell? ⟨w.heap.size, 0, none⟩ = some (.slice ao m cap) := by rw [cell_of_row _ _ _ _ _ _ Z0.out]; rfl
  have y0 := block_lt_of_cell c0
  go_wp2_with fail
  refine (rvalid_walk l (.slice ao m cap) _ (HR.out.kn HG0.out)).mono ?_
  rintro e w2 ⟨rfl, g2⟩
  have G2 := hid (grown_trans HG0.out g2)
  have c0 := g2.cell c0 (by simp)
  have y0 := block_lt_of_cell c0
  have Z1 := hid (row_of g2 Z1.out (by simp))
  have Z0 := hid (row_of g2 Z0.out (by simp))
  have H2S := hid g2.size
  clear g2
  by_cases hv : vld (l.map (·.1)) = true
  · have HVL := hid hv
    simp only [hv]
    clear hv
    by_cases h1 : a < 0
    · have t1 : decide (a < 0) = true := by simp; omega
      have HZ := hid (show gl = (zero32, 1) by rw [HV.out]; unfold leafOf; rw [if_neg (by rw [Bool.and_eq_true, isAddr_iff]; omega)])
      clear h1
      go_wp2_with (first
        | (refine wpList_buildR rfl 29 _ rfl #[] (by simp) (bD0 _) ?_)
        | (refine wpList_storeTYg rfl 29 (.tmp 4) (.tmp 19) rfl rfl rfl (tyD zero32 rfl) Z1.out rfl ?_; intro w5 g5 h5; have G5 := hid g5; have H5 := hid h5; clear g5 h5)
        | fail)
      exact bodyPost_ret (results_ct (p := 4) (q := 5) (b0 := w.heap.size + 1) rfl rfl rfl (tyD zero32 rfl) H5.out) rfl ⟨by rw [HZ.out]; rfl, grown_newR G2.out G5.out (by omega)⟩
    have t1 : decide (a < 0) = false := by simp; omega
    by_cases h2 : 17179869184 ≤ a
    · have t2 : decide ((17179869184 : Int) ≤ a) = true := by simp; omega
      have HZ := hid (show gl = (zero32, 1) by rw [HV.out]; unfold leafOf; rw [if_neg (by rw [Bool.and_eq_true, isAddr_iff]; omega)])
      clear h1 h2
      go_wp2_with (first
        | (refine wpList_buildR rfl 29 _ rfl #[] (by simp) (bD0 _) ?_)
        | (refine wpList_storeTYg rfl 29 (.tmp 4) (.tmp 19) rfl rfl rfl (tyD zero32 rfl) Z1.out rfl ?_; intro w5 g5 h5; have G5 := hid g5; have H5 := hid h5; clear g5 h5)
        | fail)
      exact bodyPost_ret (results_ct (p := 4) (q := 5) (b0 := w.heap.size + 1) rfl rfl rfl (tyD zero32 rfl) H5.out) rfl ⟨by rw [HZ.out]; rfl, grown_newR G2.out G5.out (by omega)⟩
    have t2 : decide ((17179869184 : Int) ≤ a) = false := by simp; omega
    have AB := hid (show 0 ≤ a ∧ a < 17179869184 by omega)
    have HLO := hid (show gl = (match (l.map (·.1)).find? (fun n => cov n a) with | some n => ((desc a (34 - n.d).toNat n).k, 0) | none => (zero32, 10)) by
      rw [HV.out]; unfold leafOf; rw [if_pos (by rw [Bool.and_eq_true, isAddr_iff]; exact ⟨AB.out, HVL.out⟩), find_hasA HVL.out]; cases (l.map (·.1)).find? (fun n => cov n a) <;> rfl)
    have HND := hid (show ∀ n ∈ l, 0 ≤ n.1.d ∧ n.1.d ≤ 34 from fun n hn => by
      have h := okN_iff.1 (vld_ok HVL.out n.1 (List.mem_map.2 ⟨n, hn, rfl⟩))
      exact ⟨h.1, h.2.1⟩)
    go_wp2_with fail
    refine (rfind_walk l (.slice ao m cap) a _ (HR.out.kn G2.out) HND.out AB.out).mono ?_
    rintro e w3 ⟨rfl, g3⟩
    have G3 := hid (grown_trans G2.out g3)
    have c0 := g3.cell c0 (by simp)
    have y0 := block_lt_of_cell c0
    have Z1 := hid (row_of g3 Z1.out (by simp))
    have H3S := hid g3.size
    clear g3 h1 h2 t1 t2
    rcases hfi : (l.map (·.1)).find? (fun n => cov n a) with _ | n0
    · have hf := fnd_none hfi
      have HZ := hid (show gl = (zero32, 10) by rw [HLO.out, hfi])
      rw [hf]
      clear hf hfi
      go_wp2_with (first
        | (refine wpList_buildR rfl 29 _ rfl #[] (by simp) (bD0 _) ?_)
        | (refine wpList_storeTYg rfl 29 (.tmp 4) (.tmp 25) rfl rfl rfl (tyD zero32 rfl) Z1.out rfl ?_; intro w5 g5 h5; have G5 := hid g5; have H5 := hid h5; clear g5 h5)
        | fail)
      exact bodyPost_ret (results_ct (p := 4) (q := 5) (b0 := w.heap.size + 1) rfl rfl rfl (tyD zero32 rfl) H5.out) rfl ⟨by rw [HZ.out]; rfl, grown_newR G3.out G5.out (by omega)⟩
    · obtain ⟨i, hi, hf, hn0⟩ := fnd_some hfi
      have HZ := hid (show gl = ((desc a (34 - n0.d).toNat n0).k, 0) by rw [HLO.out, hfi])
      have hsr := HR.out.kn G3.out
      have hil : i < m := by rw [HM.out]; rw [List.length_map] at hi; exact hi
      obtain ⟨b, off, rfl, hrg⟩ := hsr.1.range hi
      have HNK := hid (hsr.1.2 _ (List.getElem_mem hi))
      have HNO := hid (vld_ok HVL.out _ (List.getElem_mem hi))
      rw [hn0] at hrg HNK HNO
      have HRG := hid hrg
      have TN := hid (tyN n0 HNK.out.1.1)
      have NL := hid (ncells_len n0 HNK.out.1.1)
      have i0 : (0 : Int) ≤ (i : Int) := by omega
      have i1 : (i : Int) < (m : Int) := by omega
      obtain ⟨DN, hDN⟩ : ∃ D, D = desc a (34 - n0.d).toNat n0 := ⟨_, rfl⟩
      rw [← hDN] at HZ
      have HDN := hid hDN
      have HDK := hid (show Dg DN.k by rw [hDN]; exact desc_dg a _ _ HNK.out.1)
      rw [hf]
      clear hf hfi hsr hrg hn0 hi hil hDN
      obtain ⟨B, hB⟩ : ∃ B, B = w3.heap.size := ⟨_, rfl⟩
      have HB := hid hB
      clear hB
      go_wp2_with (first
        | (refine wpList_loadAt rfl 91 (.tmp 29) rfl rfl TN.out HRG.out ?_)
        | (refine wpList_storeTYg rfl 91 (.tmp 7) (.tmp 30) rfl rfl rfl TN.out (heap_at rfl) (by rw [NL.out]; rfl) ?_; intro W4 g4 h4; rw [← HB.out] at h4; have G4 := hid (grown_newR (World.grownBy_alloc w3 _ none) g4 (Nat.le_refl _)); have H4 := hid h4; clear g4 h4)
        | fail)
      try go_frame
      rw [← HB.out]
      go_loopw [] (fun wr => ∃ n' : Nd, Hid (okN n' = true ∧ Dg n'.k ∧ desc a (34 - n'.d).toNat n' = DN ∧ W4.grownBy wr (some B) ∧ wr.heap[B]? = some (.cells (ncells n').toArray 91 (0, 0)))) (fun wr => (34 - intOf ((wr.cell? ⟨B, 0, none⟩).getD undef)).toNat)
      case atStart => exact ⟨n0, hid ⟨HNO.out, HNK.out.1, HDN.out.symm, World.grownBy.refl _ _, H4.out⟩⟩
      case round =>
        obtain ⟨n', HI⟩ := hrel
        obtain ⟨d, p, kk⟩ := n'
        obtain ⟨o1, o2, o3, o4⟩ := okN_iff.1 HI.out.1
        have o5 := okN_p HI.out.1
        obtain ⟨c8, c9, y8⟩ := ncell0 HI.out.2.2.2.2
        simp only at c8 c9 o1 o2 o3 o5
        obtain ⟨e, rfl⟩ : ∃ e : Nat, d = e := ⟨d.toNat, by omega⟩
        have MU := hid (show intOf ((wr.cell? ⟨B, 0, none⟩).getD undef) = (e : Int) by rw [c8]; rfl)
        by_cases hlt : e < 34
        · have t1 : decide ((e : Int) < 34) = true := by simp; omega
          have TX := hid (tyN ⟨(e : Int), p, kk⟩ HI.out.2.1.1)
          have HL := hid (show ∀ w', (∃ s : Gw wr, w' = s.val) → (Instr.loadAt 91 (.pointer (some ⟨B, 0, none⟩))).run Try.prog w' = .ok (nval ⟨(e : Int), p, kk⟩) w' from fun w' ⟨s, h⟩ => by subst h; exact loadsAt TX.out (rangeAt_row (row_of s.g HI.out.2.2.2.2 (by simp))))
          have cD : ∀ s : Gw wr, s.val.cell? ⟨B, 0, none⟩ = some (.int .i64 (e : Int)) := fun s => s.cell c8
          obtain ⟨q, hq⟩ : ∃ q : Int, q = 2 ^ (33 - e) := ⟨_, rfl⟩
          have hq0 : 0 < q := by rw [hq]; exact Int.pow_pos (by decide)
          have HSZ := hid (show ∀ W, Calls Try.prog 60 #[.int .i64 (IntKind.i64.wrap ((e : Int) + 1))] W fun e' w' => e' = .returned (.int .i64 q) ∧ w' = W from fun W => by
            have h := size_walk (e + 1) (by omega) W
            rw [show 34 - (e + 1) = 33 - e by omega, ← hq] at h
            rw [show IntKind.i64.wrap ((e : Int) + 1) = ((e + 1 : Nat) : Int) by rw [IntKind.wrap_i64]; omega]
            exact h)
          obtain ⟨r, hr⟩ : ∃ r, r = bit ⟨(e : Int), p, kk⟩ a := ⟨_, rfl⟩
          have hdq : 0 ≤ a / q ∧ a / q < 17179869184 := by rw [hq]; exact div_bd AB.out (33 - e)
          have HRR := hid (show a / q % 2 = if r then 1 else 0 by
            rw [hr]; unfold bit; simp only
            rw [show (33 - (e : Int)).toNat = 33 - e by omega, ← hq]
            by_cases h : a / q % 2 = 1
            · simp [h]
            · simp [h]; omega)
          have hqn : ¬ q = 0 := by omega
          have htd : a.tdiv q = a / q := Int.tdiv_eq_ediv_of_nonneg AB.out.1
          have htm : (a / q).tmod 2 = a / q % 2 := Int.tmod_eq_emod_of_nonneg hdq.1
          have hw1 : IntKind.i64.wrap (a / q) = a / q := by rw [IntKind.wrap_i64]; omega
          have hw2 : IntKind.i64.wrap (a / q % 2) = a / q % 2 := by rw [IntKind.wrap_i64]; omega
          have a1 : 0 ≤ a := AB.out.1
          have a2 : a < 17179869184 := AB.out.2
          have HCH := hid (fun (R : Int) (hR : R = a / q % 2) (W : World) => rchild_walk ⟨(e : Int), p, kk⟩ r (R := R) (hR.trans HRR.out) HI.out.2.1 ⟨o1, o2⟩ ⟨o3, o5⟩ W)
          obtain ⟨CN, hCN⟩ : ∃ c, c = child ⟨(e : Int), p, kk⟩ r := ⟨_, rfl⟩
          rw [← hCN] at HCH
          have HCN := hid hCN
          have HNX := hid (show okN CN = true ∧ Dg CN.k ∧ desc a (34 - CN.d).toNat CN = DN ∧ CN.d = (e : Int) + 1 from by
            rw [hCN, hr]
            refine ⟨okN_child _ HI.out.1 (by simp only; omega), child_dg _ _, ?_, rfl⟩
            rw [← HI.out.2.2.1, show (34 - (⟨(e : Int), p, kk⟩ : Nd).d).toNat = (34 - (child ⟨(e : Int), p, kk⟩ (bit ⟨(e : Int), p, kk⟩ a)).d).toNat + 1 by simp [child]; omega]
            rfl)
          clear hq hr hCN c9 o1 o2 o3 o4 o5
          go_wp2
          clear c8 y8
          refine wp_region_grown_tail 9 (by kernel_rfl) (by kernel_rfl) ?_
          simp only [List.take_succ_cons, List.take_zero, List.drop_succ_cons, List.drop_zero]
          refine wpQuiet_load rfl 91 (.tmp 7) rfl rfl HL.out ?_
          iterate 4 (quiet_step (fail))
          quiet_step ((exact Calls.grown_of_same (HSZ.out _)))
          iterate 2 (quiet_step (fail))
          quiet_step ((exact Calls.grown_of (HCH.out _ rfl _)))
          refine wpQuiet_nil ?_
          rintro _ ⟨s, rfl⟩
          have B2 := hid (row_of s.g HI.out.2.2.2.2 (by simp))
          have GS := hid s.g
          generalize s.val = W5 at *
          clear cD HL
          go_wp2_with (first
            | (refine wpList_storeTYg rfl 91 (.tmp 7) (.tmp 42) rfl rfl rfl (tyN CN HNX.out.2.1.1) B2.out (by rw [ncells_len _ HNX.out.2.1.1, List.size_toArray, ncells_len _ HI.out.2.1.1]) ?_; intro W6 g6 h6; have G6 := hid g6; have H6 := hid h6; clear g6 h6)
            | fail)
          have c10 := (ncell0 H6.out).1
          go_frame
          go_roundw
          case rel => exact ⟨CN, hid ⟨HNX.out.1, HNX.out.2.1, HNX.out.2.2.1, grown_trans (grown_trans HI.out.2.2.2.1 (grown_none GS.out)) G6.out, H6.out⟩⟩
          case measure =>
            rw [MU.out, c10]
            show (34 - CN.d).toNat < (34 - (e : Int)).toNat
            rw [HNX.out.2.2.2]
            omega
        · have t1 : decide ((e : Int) < 34) = false := by simp; omega
          have hde : DN = ⟨(e : Int), p, kk⟩ := by
            have h := HI.out.2.2.1
            simp only at h
            rw [show (34 - (e : Int)).toNat = 0 by omega] at h
            exact h.symm
          have HDE := hid (show DN.k = kk by rw [hde])
          have Z5 := hid (row_of HI.out.2.2.2.1 (row_of G4.out Z1.out (by simp)) (by have := HB.out; have := HS0.out; have := H2S.out; have := H3S.out; simp; omega))
          clear hde
          go_wp2_with (first
            | (refine wpList_loadAt rfl 29 (.tmp 43) rfl rfl (tyD kk HI.out.2.1.1) (key_range HI.out.2.2.2.2) ?_)
            | (refine wpList_storeTYg rfl 29 (.tmp 4) (.tmp 44) rfl rfl rfl (tyD kk HI.out.2.1.1) Z5.out (by rw [bv_length, HI.out.2.1.1]; rfl) ?_; intro w7 g7 h7; have G7 := hid g7; have H7 := hid h7; clear g7 h7)
            | fail)
          exact bodyPost_ret (results_ct (p := 4) (q := 5) (b0 := w.heap.size + 1) rfl rfl rfl (tyD kk HI.out.2.1.1) H7.out) rfl ⟨by rw [HZ.out]; show _ = Ending.returned (.tuple #[dval DN.k, _]); rw [HDE.out]; rfl, grown_newR (grown_newR (grown_trans G3.out G4.out) HI.out.2.2.2.1 (by have := HB.out; have := G3.out.size; omega)) G7.out (by omega)⟩
  · have HVL := hid hv
    simp only [Bool.not_eq_true] at hv
    simp only [hv]
    clear hv
    have HZ := hid (show gl = (zero32, 1) by rw [HV.out]; unfold leafOf; rw [if_neg (by rw [Bool.and_eq_true]; exact fun h => HVL.out h.2)])
    go_wp2_with (first
      | (refine wpList_buildR rfl 29 _ rfl #[] (by simp) (bD0 _) ?_)
      | (refine wpList_storeTYg rfl 29 (.tmp 4) (.tmp 19) rfl rfl rfl (tyD zero32 rfl) Z1.out rfl ?_; intro w5 g5 h5; have G5 := hid g5; have H5 := hid h5; clear g5 h5)
      | fail)
    exact bodyPost_ret (results_ct (p := 4) (q := 5) (b0 := w.heap.size + 1) rfl rfl rfl (tyD zero32 rfl) H5.out) rfl ⟨by rw [HZ.out]; rfl, grown_newR G2.out G5.out (by omega)⟩
end Go.Proofs.Yteakoleceoclkaa
