/- Key trees: the law KeytreeAgain. (printed by genlaws.py) -/
import Derived.Test.YteakoleceoclkaaK22
namespace Go.Proofs.Yteakoleceoclkaa
open Go.RowKit Go.Shelf
set_option linter.unusedSimpArgs false
set_option linter.unusedVariables false
attribute [local go_sem] Oper.semAt_some
theorem Fresh.after {w W W' : World} {v : Value} (g : w.grownBy W none) (h : Fresh W W' v) : Fresh w W' v :=
  Step.fresh (grown_trans g h.none) fun k hk => Nat.le_trans g.size ((h.2 k hk).elim (fun h => by simp [nilS, Value.ownBlock] at h) id)
/-- a second puncture, as an answer -/
theorem punOf_again {k : List Nat} {A : List Int} (hl : A.length ≤ 800) (ha : ∀ a ∈ A, isAddr a = true) {j : Nat} (hj : j < A.length) : punOf (tree k A) A[j] = (tree k A, 0) := by
  have h1 := List.getElem_mem hj
  rw [punOf_tree hl (ha _ h1), tree_again h1]
set_option maxRecDepth 100000 in
set_option maxHeartbeats 4000000 in
theorem again_walk (k : List Nat) (hk : Dg k) (l : List Int) (v : Value) (w : World) (hv : Sl w 1 v l.length (ic l)) :
    Calls Try.prog 7 #[dval k, v] w fun e w' => e = .returned (.bool true) ∧ w.grownBy w' none := by
  have HK := hid hk
  obtain ⟨A, hA⟩ : ∃ A, A = difs 6 [] l := ⟨_, rfl⟩
  have HAA := hid (show ∀ a ∈ A, isAddr a = true by rw [hA]; exact difs_addr 6 l [] (by simp))
  have hAl : A.length ≤ 6 := by rw [hA]; exact difs_len 6 l [] (by simp)
  have HAL := hid (show A.length ≤ 800 by omega)
  have HND := hid (show A.Nodup by rw [hA]; exact difs_nodup 6 l [] List.nodup_nil)
  have DC := hid (fun (W : World) (g : w.grownBy W none) => (show Calls Try.prog 28 #[v, .int .i64 6] W fun e w' => ∃ ao cap, e = .returned (.slice ao A.length cap) ∧ Own w' 2 1 (.slice ao A.length cap) A.length (ic A) ∧ Fresh W w' (.slice ao A.length cap) from by
    subst hA
    exact different_walk l v 6 (by decide) W (hv.kn g) (by obtain ⟨_, _, _, h1, h2⟩ := hv.shape; omega)))
  have PC := hid (fun (W : World) (s : Value) (h : Sl W 1 s A.length (ic A)) => punctured_walk k hk A s W h (by omega) HAA.out)
  obtain ⟨C, hC⟩ : ∃ C, C = bv k := ⟨_, rfl⟩
  have TD := hid (show TY Try.prog 29 C (.agg C.toArray) by rw [hC]; exact tyD k hk.1)
  have NC := hid (fun W => new_call (w := W) hk)
  unfold dval at NC PC ⊢
  rw [← hC] at NC PC ⊢
  obtain ⟨m, hm⟩ : ∃ m, m = A.length := ⟨_, rfl⟩
  rw [← hm] at PC DC hAl
  have HM := hid hm
  clear hk hA hC hm
  go_enter Try.func7, Try.ntmps7
  refine wp_seq_k fun K0 k0 => ?_
  have HK0 := hid k0
  clear k0
  go_wp2
  refine HK0.out _ _ ?_
  clear HK0
  refine pauseB1 fun W GW B0 => ?_
  refine wp_seq_k fun K1 k1 => ?_
  have HK1 := hid k1
  clear k1
  go_wp2_with fail
  refine (DC.out _ GW.out).mono ?_
  rintro e W1 ⟨ao1, cap1, rfl, h1, h2⟩
  have OA := hid h1
  have FA := hid (Fresh.after GW.out h2)
  replace B0 := hid (row_of h2.none B0.out (by simp))
  clear h1 h2 DC GW
  go_wp2_with fail
  refine HK1.out _ _ ?_
  clear HK1
  refine wp_seq_k fun K2 k2 => ?_
  have HK2 := hid k2
  clear k2
  go_wp2_with (first
    | (refine wpList_loadTY rfl 29 (.tmp 2) rfl rfl TD.out B0.out ?_)
    | fail)
  refine (PC.out _ _ (Sl.of_own OA.out)).mono ?_
  rintro e W2 ⟨ao2, cap2, rfl, h2, g2⟩
  obtain ⟨n2, hn2⟩ : ∃ n, n = (tree k A).length := ⟨_, rfl⟩
  rw [← hn2] at h2 ⊢
  have T2 := hid h2
  have HN2 := hid hn2
  replace OA := hid (OA.out.kn g2)
  replace FA := hid (Fresh.then_ FA.out g2)
  replace B0 := hid (row_of g2 B0.out (by simp))
  clear h2 g2 hn2
  obtain ⟨B, hB⟩ : ∃ x, x = W2.heap.size := ⟨_, rfl⟩
  have HBq := hid hB
  clear hB
  go_wp2_with (first
    | (refine wpList_storeTYg rfl 34 (.tmp 6) (.tmp 17) rfl rfl rfl (tyT (.slice ao2 n2 cap2) rfl) (heap_at rfl) rfl ?_; intro W3 g3 h3; rw [← HBq.out] at h3; have G3 := hid (grown_newR (World.grownBy_alloc W2 _ none) g3 (Nat.le_refl _)); have HB := hid h3; clear g3 h3)
    | fail)
  try go_frame
  rw [← HBq.out]
  replace T2 := hid (T2.out.kn G3.out)
  replace OA := hid (OA.out.kn G3.out)
  replace FA := hid (Fresh.then_ FA.out G3.out)
  replace B0 := hid (row_of G3.out B0.out (by simp))
  clear G3 HBq PC W1
  refine HK2.out _ _ ?_
  clear HK2
  go_wp2
  go_loopw [8, 9, 10] (fun i p q wr => ∃ j : Nat, j ≤ m ∧ i = .int .i64 j ∧ Hid (w.grownBy wr none) ∧ Hid (wr.heap[B]? = some (.cells #[.slice ao2 n2 cap2] 34 (0, 0))) ∧ Hid (RdT wr (.slice ao2 n2 cap2) (tree k A)) ∧ Hid (Sl wr 1 (.slice ao1 m cap1) m (ic A))) (fun i _ _ _ => (m - intOf i).toNat)
  case atStart => exact ⟨0, by omega, rfl, hid FA.out.none, HB, T2, hid (Sl.of_own OA.out)⟩
  case round =>
    clear HB T2 OA FA B0
    obtain ⟨j, hj, rfl, HGR, HT, HR, HV⟩ := hrel
    have HR := hid (show RdT wr (.slice ao2 n2 cap2) (tree k A) from HR.out)
    by_cases hlt : j < m
    · have hjl : j < A.length := by rw [← HM.out]; exact hlt
      have t1 : decide (j < m) = true := by simp; omega
      obtain ⟨b, off, rfl, hc⟩ := irange (show Sl wr 1 (.slice ao1 A.length cap1) A.length (ic A) by rw [← HM.out]; exact HV.out) hjl
      have PO := hid (punOf_again (k := k) HAL.out HAA.out hjl)
      obtain ⟨x, hx⟩ : ∃ x, x = A[j] := ⟨_, rfl⟩
      rw [← hx] at hc PO
      have HC := hid hc
      obtain ⟨RT, hR⟩ : ∃ R, R = tree k A := ⟨_, rfl⟩
      rw [← hR] at PO HR
      have HRq := hid hR
      have i0 : (0 : Int) ≤ (j : Int) := by omega
      have i1 : (j : Int) < (m : Int) := by omega
      clear hc hjl hx hR
      go_wp2
      refine region_tailU (by kernel_rfl) 46 rfl 10 [none, none, none, none, none, none, none, none, none, some (Sp.new wr.heap.size [.slice none 0 0] 34), none, none, none, none, none, none, none, none, none, none, none, none, none, none, none, some (Sp.punc (RT, (0 : Int))), some (Sp.is (.agg #[.slice ao2 n2 cap2])), some (Sp.is (.slice (some ⟨b, off, none⟩) m cap1)), some (Sp.is (.int .i64 (j : Int))), some (Sp.is (.pointer (some ⟨b, off + j, none⟩))), some (Sp.is (.int .i64 x)), some (Sp.punc (RT, (0 : Int))), some (Sp.tree (RT, (0 : Int))), some (Sp.is (.int .i64 ((RT, (0 : Int))).2)), none, none, none, none, none, none, none, none, none, none, none, none] (by kernel_rfl) (by kernel_rfl)
        ⟨ob_loadT rfl rfl trivial ⟨by decide, fun _ _ h => h⟩ (fun w' g => loadsAt (tyT (.slice ao2 n2 cap2) rfl) (rangeAt_row (row_of g HT.out (by simp)))) (fun _ => rfl),
         ob_move 5 27 rfl rfl (by decide) trivial (fun _ _ h => h),
         ob_move 8 28 rfl rfl (by decide) trivial (fun _ _ h => h),
         ob_index (p := .slice (some ⟨b, off, none⟩) m cap1) (k := .int .i64 (j : Int)) (v := .pointer (some ⟨b, off + j, none⟩)) rfl rfl trivial ⟨by decide, fun _ _ h => h⟩ ⟨by decide, fun _ _ h => h⟩ (fun _ => by go_simp) (fun _ => rfl),
         ob_loadT rfl rfl trivial ⟨by decide, fun _ _ h => h⟩ (fun w' g => loadsAt (tyI x) (rangeAt_one (g.cell HC.out (by simp)))) (fun _ => rfl),
         ob_callS (Sp.punc (RT, (0 : Int))) [.agg #[.slice ao2 n2 cap2], .int .i64 x] rfl rfl trivial ⟨⟨by decide, fun _ _ h => h⟩, ⟨by decide, fun _ _ h => h⟩, trivial⟩ (punct_on PO.out HR.out) (fun _ _ h => h) (enter_of Try.func24 (by kernel_rfl) rfl),
         ob_move 31 25 rfl rfl (by decide) trivial (fun _ _ h => h),
         ob_extract rfl rfl (by decide) trivial (fun w u h => punc_tree w u h),
         ob_extract rfl rfl (by decide) trivial (fun w u h => punc_err w u h),
         ob_alloc rfl trivial (Nat.le_refl _) (fun a w => by kernel_rfl) (fun _ _ h => h), trivial⟩
        [9] (by kernel_rfl) (LaysAll.at ⟨.inl rfl, .inl rfl, .inl rfl, .inl rfl, .inl rfl, .inl rfl, .inl rfl, .inl rfl, .inl rfl, .inr ⟨rfl, #[.slice none 0 0], 34, fun a w => by kernel_rfl⟩, trivial⟩) (fun t ht => by simp at ht; subst ht; exact ⟨_, rfl, Sp.new_lt⟩)
        [8] (by kernel_rfl) (fun _ _ d _ _ h => by cases d <;> exact h) (by kernel_rfl) (fun i hi o ho a w hg hl hs => by obtain rfl := List.mem_singleton.1 hi; obtain rfl := Option.some.inj ho; exact pu_extract (n := 46) rfl rfl (by decide) rfl hl (fun w u h => punc_err w u h)) ?_
      intro xx W3 g3 hx _
      obtain ⟨A8, e8, b8, h8⟩ := hx 9 _ rfl (by decide)
      have e26 : xx 26 = .agg #[.slice ao2 n2 cap2] := hx 26 _ rfl (by decide)
      have e27 : xx 27 = .slice (some ⟨b, off, none⟩) m cap1 := hx 27 _ rfl (by decide)
      have e28 : xx 28 = .int .i64 (j : Int) := hx 28 _ rfl (by decide)
      have e29 : xx 29 = .pointer (some ⟨b, off + j, none⟩) := hx 29 _ rfl (by decide)
      have e30 : xx 30 = .int .i64 x := hx 30 _ rfl (by decide)
      have e33 : xx 33 = .int .i64 ((RT, (0 : Int))).2 := hx 33 _ rfl (by decide)
      obtain ⟨ao5, cap5, e32, t5⟩ := hx 32 _ rfl (by decide)
      simp only [fillO]
      rw [e8, e26, e27, e28, e29, e30, e32, e33]
      generalize xx 31 = z1 at *
      generalize xx 25 = z2 at *
      have H8 := hid h8
      have NB8 := hid b8
      have T5 := hid t5
      have GG3 := hid g3
      clear hx e8 b8 h8 t5 g3 e26 e27 e28 e29 e30 e32 e33
      simp only [List.drop_succ_cons, List.drop_zero]
      go_wp2_with (first
        | (refine wpList_storeTYg rfl 34 (.tmp 9) (.tmp 32) rfl rfl rfl (tyT (.slice ao5 ((RT, (0 : Int))).1.length cap5) rfl) H8.out rfl ?_; intro W5 g5 h5; have G5 := hid (grown_newR GG3.out g5 NB8.out); have TT5 := hid (And.intro g5 h5); clear g5 h5; have c6 : W5.cell? ⟨B, 0, none⟩ = some (.slice ao2 n2 cap2) := (by rw [cell_of_row _ _ _ _ _ _ (row_of G5.out HT.out (by simp))]; rfl); have y6 := block_lt_of_cell c6; have c9 : W5.cell? ⟨A8, 0, none⟩ = some (.slice ao5 RT.length cap5) := (by rw [cell_of_row _ _ _ _ _ _ TT5.out.2]; rfl); have y9 := block_lt_of_cell c9)
        | fail)
      have RT5 := hid (RdT.aside T5.out H8.out (fun _ _ => by simp) TT5.out.1)
      refine (sameTree_walk (HR.out.kn G5.out) RT5.out).mono ?_
      rintro e W6 ⟨rfl, g6⟩
      go_wp2
      try go_frame
      go_roundw
      case rel => exact ⟨j + 1, by omega, by go_num, hid (grown_trans (grown_trans HGR.out G5.out) g6), hid (row_of g6 (row_of G5.out HT.out (by simp)) (by simp)), hid (by rw [← HRq.out]; exact (HR.out.kn G5.out).kn g6), hid ((HV.out.kn G5.out).kn g6)⟩
      case measure => simp [intOf] <;> omega
    · obtain rfl : j = m := by omega
      have t1 : decide (j < j) = false := by simp
      go_wp2_with fail
      refine (awake_walk wr).mono ?_
      rintro e W9 ⟨rfl, g9⟩
      go_wp2
      go_ret
      exact ⟨rfl, grown_trans HGR.out g9⟩
end Go.Proofs.Yteakoleceoclkaa
