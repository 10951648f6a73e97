/- Key trees: the law KeytreeGaps. (printed by gen_l9.py) -/
import Derived.Test.YteakoleceoclkaaSP
import Derived.Test.YteakoleceoclkaaPG
namespace Go.Proofs.Yteakoleceoclkaa
open Go.RowKit Go.Shelf
set_option linter.unusedSimpArgs false
set_option linter.unusedVariables false
theorem q_ways {l : List Int} {q : Nat} (h : q < l.length) : q = 0 ∨ (0 < q ∧ ∃ v1 v2, l[q - 1]'(by omega) = v1 ∧ l[q]'h = v2 ∧ v2 < v1) ∨ (0 < q ∧ ∃ v1 v2, l[q - 1]'(by omega) = v1 ∧ l[q]'h = v2 ∧ ¬ v2 < v1) := by
  rcases Nat.eq_zero_or_pos q with h0 | h0
  · exact .inl h0
  · by_cases hv : l[q]'h < l[q - 1]'(by omega)
    · exact .inr (.inl ⟨h0, _, _, rfl, rfl, hv⟩)
    · exact .inr (.inr ⟨h0, _, _, rfl, rfl, hv⟩)
theorem g_ways {G : List (Int × Int)} {n : Nat} {x : Int} (hn : G.length = n) : n = 0 ∨ (0 < n ∧ ∃ e, (∃ hj : n - 1 < G.length, G[n - 1]'hj = e) ∧ e.2 = x) ∨ (0 < n ∧ ∃ e, (∃ hj : n - 1 < G.length, G[n - 1]'hj = e) ∧ e.2 ≠ x) := by
  rcases Nat.eq_zero_or_pos n with h0 | h0
  · exact .inl h0
  · by_cases hv : (G[n - 1]'(by omega)).2 = x
    · exact .inr (.inl ⟨h0, _, ⟨by omega, rfl⟩, hv⟩)
    · exact .inr (.inr ⟨h0, _, ⟨by omega, rfl⟩, hv⟩)
set_option maxRecDepth 100000 in
set_option maxHeartbeats 4000000 in
theorem lgaps_walk (k0 : List Nat) (hk : Dg k0) (l : List Int) (ao : Option Addr) (cap : Nat) (w : World) (hv : SlB w 1 (.slice ao l.length cap) l.length (l.flatMap ce)) :
    Calls Try.prog 9 #[dval k0, .slice ao l.length cap] w fun e w' => e = .returned (.bool true) ∧ w.grownBy w' none := by
  obtain ⟨A, hA⟩ : ∃ A, difs 8 [] l = A := ⟨_, rfl⟩
  have hAA : ∀ a ∈ A, isAddr a = true := by rw [← hA]; exact difs_addr 8 l [] (by simp)
  have hAl : A.length ≤ 8 := by rw [← hA]; exact difs_len 8 l [] (by simp)
  have hAN : A.Nodup := by rw [← hA]; exact difs_nodup 8 l [] List.nodup_nil
  obtain ⟨T, hT⟩ : ∃ T, tree k0 A = T := ⟨_, rfl⟩
  refine cx_enter Try.func9 rfl Try.ntmps9 rfl fun a0 sv0 => ?_
  have HG := World.grownBy.refl w none
  replace sv0 : Sv 115 [] [(0, dval k0), (1, .slice ao l.length cap)] a0 := sv0
  refine wp_seq_k fun K1 k1 => ?_
  refine wp_region_lit ?_
  refine tl_box sv0 rfl rfl rfl rfl rfl rfl (tyD k0 hk.1) fun a2 w2 B2_2 eq_B2_2 g2 z2 HB2_2 sv2 => ?_
  have lo_B2_2 := nb_lo HG eq_B2_2
  have ap_hv_B2_2 := nb_ap (hv.lt) eq_B2_2
  replace hv := hv.kn g2
  replace HG := grown_trans HG g2
  refine tl_as (v := .bool false) sv2 r6 fun a3 sv3 => ?_
  refine tl_nil ?_
  refine k1 _ _ ?_
  refine wp_seq_k fun K4 k4 => ?_
  refine wp_region_lit ?_
  refine sx_head (sv3.st w2) 2 [(13, Sp.is (.slice ao l.length cap)), (14, Sp.ints w2.heap.size A)] rfl (by kernel_rfl) (by kernel_rfl) (by kernel_rfl)
    ⟨ym r5, ox_call (Sp.ints w2.heap.size A) [.slice ao l.length cap, .int .i64 8] rfl rfl trivial ⟨(oy rfl rfl), rfl, trivial⟩ (by rw [← hA]; exact different_on (by decide) hv.1) (fun _ _ h => h) (enter_of Try.func28 (by kernel_rfl) rfl), trivial⟩ fun a5 w5 g5 st5 => ?_
  obtain ⟨hn5, hd5, e5_13, e5_14, e5_4, e5_2, e5_0, e5_1, -⟩ := st5
  obtain ⟨ao6, cap6, e5_14q, ow6, wl6⟩ := e5_14
  have ap_ow6_B2_2 := fr_ap wl6 HB2_2
  have ap_hv_ow6 : ∀ k, fpS (.slice ao l.length cap) k → ¬ fpS (.slice ao6 A.length cap6) k := fun k hzr hk => absurd (hv.lt k hzr) (Nat.not_lt.2 (wl6 k hk))
  have lo_ow6 : ∀ k, fpS (.slice ao6 A.length cap6) k → w.heap.size ≤ k := fun k hk => Nat.le_trans HG.size (wl6 k hk)
  replace HB2_2 := rw_kn g5 HB2_2
  replace hv := hv.kn g5
  replace HG := grown_trans HG g5
  have sv5 : Sv 115 [] [(4, _), (2, _), (0, _), (1, _), (14, _)] a5 := ⟨hn5, hd5, e5_4, e5_2, e5_0, e5_1, e5_14q, trivial⟩
  refine tl_as (v := .slice ao6 A.length cap6) sv5 r6 fun a7 sv7 => ?_
  refine tl_nil ?_
  refine k4 _ _ ?_
  refine wp_seq_k fun K8 k8 => ?_
  refine wp_region_lit ?_
  refine sx_head (sv7.st w5) 6 [(16, Sp.is (dval k0)), (17, Sp.is (.slice ao6 A.length cap6)), (18, Sp.ptg w5.heap.size T), (15, Sp.ptg w5.heap.size T), (19, Sp.ct w5.heap.size T), (20, Sp.is (.bool true))] rfl (by kernel_rfl) (by kernel_rfl) (by kernel_rfl)
    ⟨yl r6 (tyD k0 hk.1) HB2_2, ym r5, ox_call (Sp.ptg w5.heap.size T) [dval k0, .slice ao6 A.length cap6] rfl rfl trivial ⟨(oy rfl rfl), (oy rfl rfl), trivial⟩ (ptg_on hk hT (Own.sb ow6) (by omega) hAA) (fun _ _ h => h) (enter_of Try.func29 (by kernel_rfl) rfl), ym r5, ox_extract rfl rfl rfl trivial (fun w u h => ptg_tree w u h), ox_extract rfl rfl rfl trivial (fun w u h => ptg_ok w u h), trivial⟩ fun a9 w9 g9 st9 => ?_
  obtain ⟨hn9, hd9, e9_16, e9_17, e9_18, e9_15, e9_19, e9_20, e9_5, e9_4, e9_2, e9_0, e9_1, e9_14, -⟩ := st9
  obtain ⟨ao10, cap10, e9_19q, hk10, fr10⟩ := e9_19
  have ap_hk10_B2_2 := fr_ap fr10 HB2_2
  have ap_hk10_ow6 : ∀ k, fpT (.slice ao10 T.length cap10) k → ¬ fpS (.slice ao6 A.length cap6) k := fun k hk hzr => absurd (Own.ltS ow6 k hzr) (Nat.not_lt.2 (fr10 k hk))
  have lo_hk10 : ∀ k, fpT (.slice ao10 T.length cap10) k → w.heap.size ≤ k := fun k hk => Nat.le_trans HG.size (fr10 k hk)
  replace HB2_2 := rw_kn g9 HB2_2
  replace hv := hv.kn g9
  replace ow6 := ow6.kn g9
  replace HG := grown_trans HG g9
  have sv9 : Sv 115 [] [(5, _), (4, _), (2, _), (0, _), (1, _), (14, _), (19, _), (20, _)] a9 := ⟨hn9, hd9, e9_5, e9_4, e9_2, e9_0, e9_1, e9_14, e9_19q, e9_20, trivial⟩
  refine tl_alloc (T := 34) (Z := [.slice none 0 0]) sv9 rfl rfl rfl (fun a w => by kernel_rfl) fun a11 w11 B6_11 eq_B6_11 g11 z11 HB6_11 sv11 => ?_
  have ne_B6_11_B2_2 := nb_ne HB2_2 eq_B6_11
  have lo_B6_11 := nb_lo HG eq_B6_11
  have ap_hv_B6_11 := nb_ap (hv.lt) eq_B6_11
  have ap_ow6_B6_11 := nb_ap (Own.ltS ow6) eq_B6_11
  have ap_hk10_B6_11 := nb_ap (hk10.lt) eq_B6_11
  replace HB2_2 := rw_kn g11 HB2_2
  replace hv := hv.kn g11
  replace ow6 := ow6.kn g11
  replace hk10 := hk10.kn g11
  replace HG := grown_trans HG g11
  refine tl_sw sv11 r7 (tyT (.slice ao10 T.length cap10) rfl) HB6_11 rfl fun w12 g12 h12 => ?_
  replace HB2_2 := rw_st g12 HB2_2 (Ne.symm ne_B6_11_B2_2)
  replace hv := hv.offR g12 (no_b ap_hv_B6_11)
  replace ow6 := ow6.offR g12 (no_b ap_ow6_B6_11)
  replace hk10 := hk10.offR g12 (no_b ap_hk10_B6_11)
  replace HG := grown_newR HG g12 lo_B6_11
  replace HB6_11 := h12
  refine tl_as (v := .bool true) sv11 r6 fun a13 sv13 => ?_
  refine tl_nil ?_
  refine k8 _ _ ?_
  refine wp_seq_k fun K14 k14 => ?_
  refine wp_seq_k fun K15 k15 => ?_
  refine wp_region_lit ?_
  refine tl_as (v := .int .i64 1) sv13 r6 fun a16 sv16 => ?_
  refine tl_nil ?_
  refine k15 _ _ ?_
  refine cx_block fun Q17 x17 y17 r17 o17 => ?_
  refine wp_loop (fun a w' => ∃ (i : Nat) (al : List Int), (1 ≤ i ∧ i ≤ 9) ∧ (al.Perm A) ∧ (InvS al i) ∧ Sv 115 [] [(8, .int .i64 ((i : Int))), (7, .bool true), (6, pt B6_11), (5, .slice ao6 A.length cap6), (4, .bool false), (2, pt B2_2), (0, dval k0), (1, .slice ao l.length cap), (14, .slice ao6 A.length cap6), (19, .agg #[.slice ao10 T.length cap10]), (20, .bool true)] a ∧ w.grownBy w' none ∧ w'.heap[B2_2]? = some (.cells (bv k0).toArray 29 (0, 0)) ∧ w'.heap[B6_11]? = some (.cells ([.slice ao10 T.length cap10]).toArray 34 (0, 0)) ∧ SlB w' 1 (.slice ao l.length cap) l.length (l.flatMap ce) ∧ Own w' 2 1 (.slice ao6 A.length cap6) A.length (al.flatMap ce) ∧ RdTg w' (.slice ao10 T.length cap10) T ∧ (∀ k, fpS (.slice ao6 A.length cap6) k → k ≠ B2_2) ∧ (∀ k, fpS (.slice ao6 A.length cap6) k → k ≠ B6_11) ∧ (∀ k, fpS (.slice ao l.length cap) k → ¬ fpS (.slice ao6 A.length cap6) k) ∧ (∀ k, fpT (.slice ao10 T.length cap10) k → ¬ fpS (.slice ao6 A.length cap6) k) ∧ (∀ k, fpS (.slice ao6 A.length cap6) k → w.heap.size ≤ k)) (fun a _ => (9 - intOf (a.tmps.getD 8 undef)).toNat) ⟨1, A, by omega, List.Perm.refl _, InvS.one _, ⟨sv16.1, sv16.2.1, sv16.2.2.1, sv16.2.2.2.1, sv16.2.2.2.2.1, sv16.2.2.2.2.2.1, sv16.2.2.2.2.2.2.1, sv16.2.2.2.2.2.2.2.1, sv16.2.2.2.2.2.2.2.2.1, sv16.2.2.2.2.2.2.2.2.2.1, sv16.2.2.2.2.2.2.2.2.2.2.1, sv16.2.2.2.2.2.2.2.2.2.2.2.1, sv16.2.2.2.2.2.2.2.2.2.2.2.2.1, trivial⟩, HG, HB2_2, HB6_11, hv, ow6, hk10, ap_ow6_B2_2, ap_ow6_B6_11, ap_hv_ow6, ap_hk10_ow6, lo_ow6⟩ fun a18 w18 hI18 => ?_
  clear HB2_2
  clear HB6_11
  clear hv
  clear ow6
  clear hk10
  clear HG
  obtain ⟨i, al, hi1, hp, hS, sv18, HG, HB2_2, HB6_11, hv, ow6, hk10, ap_ow6_B2_2, ap_ow6_B6_11, ap_hv_ow6, ap_hk10_ow6, lo_ow6⟩ := hI18
  refine wp_seq_k fun K19 k19 => ?_
  refine wp_seq_k fun K20 k20 => ?_
  have hall := hp.length_eq
  by_cases hi : i < A.length
  · refine wp_region_lit ?_
    refine sx_hv sv18 4 [(21, .int .i64 ((i : Int))), (22, .slice ao6 A.length cap6), (23, .int .i64 ((A.length : Nat))), (24, .bool true)]
      ⟨ym r5, ym r5, ox_len (Try.underlying37) rfl rfl trivial (oy rfl rfl) (fun _ => rfl), ybt r7 (fun _ => rn_lss (decide_eq_true (by omega))), trivial⟩ fun a21 w21 g21 sv21 => ?_
    refine tl_nil ?_
    refine k20 _ _ ?_
    refine cx_ifT sv21 rfl rfl ?_
    refine wp_skip ?_
    refine k19 _ _ ?_
    refine wp_seq_k fun K22 k22 => ?_
    refine cx_block fun Q23 x23 y23 r23 o23 => ?_
    refine wp_seq_k fun K24 k24 => ?_
    refine wp_region_lit ?_
    refine sx_hv sv21 1 [(27, .int .i64 ((i : Int)))]
      ⟨ym r5, trivial⟩ fun a25 w25 g25 sv25 => ?_
    have gc25 := grown_trans g21 g25
    refine tl_as (v := .int .i64 ((i : Int))) sv25 r6 fun a26 sv26 => ?_
    refine tl_nil ?_
    refine k24 _ _ ?_
    refine cx_block fun Q27 x27 y27 r27 o27 => ?_
    replace HB2_2 := rw_kn gc25 HB2_2
    replace HB6_11 := rw_kn gc25 HB6_11
    replace hv := hv.kn gc25
    replace ow6 := ow6.kn gc25
    replace hk10 := hk10.kn gc25
    replace HG := grown_trans HG gc25
    refine wp_loop (fun a w' => ∃ (q : Nat) (bl : List Int), (q ≤ i) ∧ (bl.Perm A) ∧ (InvK bl i q) ∧ Sv 115 [] [(9, .int .i64 ((q : Int))), (27, .int .i64 ((i : Int))), (21, .int .i64 ((i : Int))), (22, .slice ao6 A.length cap6), (23, .int .i64 ((A.length : Nat))), (24, .bool true), (8, .int .i64 ((i : Int))), (7, .bool true), (6, pt B6_11), (5, .slice ao6 A.length cap6), (4, .bool false), (2, pt B2_2), (0, dval k0), (1, .slice ao l.length cap), (14, .slice ao6 A.length cap6), (19, .agg #[.slice ao10 T.length cap10]), (20, .bool true)] a ∧ w.grownBy w' none ∧ w'.heap[B2_2]? = some (.cells (bv k0).toArray 29 (0, 0)) ∧ w'.heap[B6_11]? = some (.cells ([.slice ao10 T.length cap10]).toArray 34 (0, 0)) ∧ SlB w' 1 (.slice ao l.length cap) l.length (l.flatMap ce) ∧ Own w' 2 1 (.slice ao6 A.length cap6) A.length (bl.flatMap ce) ∧ RdTg w' (.slice ao10 T.length cap10) T ∧ (∀ k, fpS (.slice ao6 A.length cap6) k → k ≠ B2_2) ∧ (∀ k, fpS (.slice ao6 A.length cap6) k → k ≠ B6_11) ∧ (∀ k, fpS (.slice ao l.length cap) k → ¬ fpS (.slice ao6 A.length cap6) k) ∧ (∀ k, fpT (.slice ao10 T.length cap10) k → ¬ fpS (.slice ao6 A.length cap6) k) ∧ (∀ k, fpS (.slice ao6 A.length cap6) k → w.heap.size ≤ k)) (fun a _ => (intOf (a.tmps.getD 9 undef)).toNat) ⟨i, al, Nat.le_refl _, hp, InvK.start hS, ⟨sv26.1, sv26.2.1, sv26.2.2.1, sv26.2.2.2.1, sv26.2.2.2.2.1, sv26.2.2.2.2.2.1, sv26.2.2.2.2.2.2.1, sv26.2.2.2.2.2.2.2.1, sv26.2.2.2.2.2.2.2.2.1, sv26.2.2.2.2.2.2.2.2.2.1, sv26.2.2.2.2.2.2.2.2.2.2.1, sv26.2.2.2.2.2.2.2.2.2.2.2.1, sv26.2.2.2.2.2.2.2.2.2.2.2.2.1, sv26.2.2.2.2.2.2.2.2.2.2.2.2.2.1, sv26.2.2.2.2.2.2.2.2.2.2.2.2.2.2.1, sv26.2.2.2.2.2.2.2.2.2.2.2.2.2.2.2.1, sv26.2.2.2.2.2.2.2.2.2.2.2.2.2.2.2.2.1, sv26.2.2.2.2.2.2.2.2.2.2.2.2.2.2.2.2.2.1, sv26.2.2.2.2.2.2.2.2.2.2.2.2.2.2.2.2.2.2.1, trivial⟩, HG, HB2_2, HB6_11, hv, ow6, hk10, ap_ow6_B2_2, ap_ow6_B6_11, ap_hv_ow6, ap_hk10_ow6, lo_ow6⟩ fun a28 w28 hI28 => ?_
    clear HB2_2
    clear HB6_11
    clear hv
    clear ow6
    clear hk10
    clear HG
    obtain ⟨q, bl, hqi, hbp, hK, sv28, HG, HB2_2, HB6_11, hv, ow6, hk10, ap_ow6_B2_2, ap_ow6_B6_11, ap_hv_ow6, ap_hk10_ow6, lo_ow6⟩ := hI28
    refine wp_seq_k fun K29 k29 => ?_
    refine wp_seq_k fun K30 k30 => ?_
    have hbl := hbp.length_eq
    rcases q_ways (l := bl) (q := q) (by omega) with hq0 | ⟨hq0, v1, v2, hx_v1, hx_v2, hgt⟩ | ⟨hq0, v1, v2, hx_v1, hx_v2, hgt⟩
    · have hst : q = 0 ∨ ¬ gd bl q < gd bl (q - 1) := .inl hq0
      refine rx_av sv28 [(28, .int .i64 ((q : Int))), (29, .bool false), (30, .bool false), (31, undef), (32, undef), (33, undef), (34, undef), (35, undef), (36, undef), (37, undef), (38, undef), (39, undef), (40, undef), (41, .bool false)]
        ⟨ym r5, ybc r6 (fun _ => rn_gtr (decide_eq_false (by omega))), ym r5, ox_off (gn rfl rfl rfl) rfl (fun _ => rfl), ox_off (gn rfl rfl rfl) rfl (fun _ => rfl), ox_off (gn rfl rfl rfl) rfl (fun _ => rfl), ox_off (gn rfl rfl rfl) rfl (fun _ => rfl), ox_off (gn rfl rfl rfl) rfl (fun _ => rfl), ox_off (gn rfl rfl rfl) rfl (fun _ => rfl), ox_off (gn rfl rfl rfl) rfl (fun _ => rfl), ox_off (gn rfl rfl rfl) rfl (fun _ => rfl), ox_off (gn rfl rfl rfl) rfl (fun _ => rfl), ox_off (gn rfl rfl rfl) rfl (fun _ => rfl), ox_pick rfl rfl trivial (oy rfl rfl) rfl (fun _ => rfl), trivial⟩ fun a31 w31 g31 sv31 => ?_
      refine k30 _ _ ?_
      refine cx_ifF sv31 rfl rfl ?_
      refine wp_exit ?_
      repeat refine then_exit ?_
      refine x27 _ _ ?_
      refine y23 _ _ ?_
      refine k22 _ _ ?_
      refine wp_region_lit ?_
      refine sx_hv sv31 2 [(25, .int .i64 ((i : Int))), (26, .int .i64 (((i + 1 : Nat) : Int)))]
        ⟨ym r5, ybc r6 (fun _ => rn_add (by rw [wrap_i64 (by omega) (by omega)]; omega)), trivial⟩ fun a32 w32 g32 sv32 => ?_
      have gc32 := grown_trans g31 g32
      refine tl_as (v := .int .i64 (((i + 1 : Nat) : Int))) sv32 r6 fun a33 sv33 => ?_
      refine tl_nil ?_
      replace HB2_2 := rw_kn gc32 HB2_2
      replace HB6_11 := rw_kn gc32 HB6_11
      replace hv := hv.kn gc32
      replace ow6 := ow6.kn gc32
      replace hk10 := hk10.kn gc32
      replace HG := grown_trans HG gc32
      exact ⟨⟨i + 1, bl, by omega, hbp, hK.stop hqi (by omega) (hbp.nodup_iff.2 hAN) hst, ⟨sv33.1, sv33.2.1, sv33.2.2.1, sv33.2.2.2.2.2.2.2.2.2.2.2.2.2.2.2.2.2.2.2.2.2.2.2.2.2.1, sv33.2.2.2.2.2.2.2.2.2.2.2.2.2.2.2.2.2.2.2.2.2.2.2.2.2.2.1, sv33.2.2.2.2.2.2.2.2.2.2.2.2.2.2.2.2.2.2.2.2.2.2.2.2.2.2.2.1, sv33.2.2.2.2.2.2.2.2.2.2.2.2.2.2.2.2.2.2.2.2.2.2.2.2.2.2.2.2.1, sv33.2.2.2.2.2.2.2.2.2.2.2.2.2.2.2.2.2.2.2.2.2.2.2.2.2.2.2.2.2.1, sv33.2.2.2.2.2.2.2.2.2.2.2.2.2.2.2.2.2.2.2.2.2.2.2.2.2.2.2.2.2.2.1, sv33.2.2.2.2.2.2.2.2.2.2.2.2.2.2.2.2.2.2.2.2.2.2.2.2.2.2.2.2.2.2.2.1, sv33.2.2.2.2.2.2.2.2.2.2.2.2.2.2.2.2.2.2.2.2.2.2.2.2.2.2.2.2.2.2.2.2.1, sv33.2.2.2.2.2.2.2.2.2.2.2.2.2.2.2.2.2.2.2.2.2.2.2.2.2.2.2.2.2.2.2.2.2.1, sv33.2.2.2.2.2.2.2.2.2.2.2.2.2.2.2.2.2.2.2.2.2.2.2.2.2.2.2.2.2.2.2.2.2.2.1, trivial⟩, HG, HB2_2, HB6_11, hv, ow6, hk10, ap_ow6_B2_2, ap_ow6_B6_11, ap_hv_ow6, ap_hk10_ow6, lo_ow6⟩, by rw [show _ = _ from sv33.2.2.1, show _ = _ from sv18.2.2.1]; simp [intOf]; omega⟩
    · refine rx_av sv28 [(28, .int .i64 ((q : Int))), (29, .bool true), (30, .bool true), (31, .slice ao6 A.length cap6), (32, .int .i64 ((q : Int))), (33, .int .i64 (((q - 1 : Nat) : Int))), (34, pk ((bO ao6)) (oO ao6 + (q - 1) * 1)), (35, .int .i64 v1), (36, .slice ao6 A.length cap6), (37, .int .i64 ((q : Int))), (38, pk ((bO ao6)) (oO ao6 + q * 1)), (39, .int .i64 v2), (40, .bool true), (41, .bool true)]
        ⟨ym r5, ybc r6 (fun _ => rn_gtr (decide_eq_true (by omega))), ym r5, ox_move 5 31 (.inl rfl) rfl rfl (gy rfl rfl rfl) (fun _ _ h => h), ox_move 9 32 (.inl rfl) rfl rfl (gy rfl rfl rfl) (fun _ _ h => h), ox_bin rfl rfl (gy rfl rfl rfl) (oy rfl rfl) rfl (fun _ => rn_sub (by rw [wrap_i64 (by omega) (by omega)]; omega)) (fun _ => rfl), ox_index rfl rfl (gy rfl rfl rfl) (oy rfl rfl) (oy rfl rfl) (fun w => ix_sl Try.underlying37 (by kernel_rfl) ((Sl.of_own ow6)) (by omega) (rfl) w) (fun _ => rfl), ox_load rfl rfl (gy rfl rfl rfl) (oy rfl rfl) (fun _ g => loadsAt (tyInt64 v1) (by rw [← hx_v1]; exact el_range (Sl.of_own (ow6.kn g)) ce_len (by omega) (by decide))) (fun _ => rfl), ox_move 5 36 (.inl rfl) rfl rfl (gy rfl rfl rfl) (fun _ _ h => h), ox_move 9 37 (.inl rfl) rfl rfl (gy rfl rfl rfl) (fun _ _ h => h), ox_index rfl rfl (gy rfl rfl rfl) (oy rfl rfl) (oy rfl rfl) (fun w => ix_sl Try.underlying37 (by kernel_rfl) ((Sl.of_own ow6)) (by omega) (rfl) w) (fun _ => rfl), ox_load rfl rfl (gy rfl rfl rfl) (oy rfl rfl) (fun _ g => loadsAt (tyInt64 v2) (by rw [← hx_v2]; exact el_range (Sl.of_own (ow6.kn g)) ce_len (by omega) (by decide))) (fun _ => rfl), ox_bin rfl rfl (gy rfl rfl rfl) (oy rfl rfl) (oy rfl rfl) (fun _ => rn_gtr (decide_eq_true hgt)) (fun _ => rfl), ox_pick rfl rfl trivial (oy rfl rfl) (oy rfl rfl) (fun _ => rfl), trivial⟩ fun a34 w34 g34 sv34 => ?_
      refine k30 _ _ ?_
      refine cx_ifT sv34 rfl rfl ?_
      refine wp_skip ?_
      refine k29 _ _ ?_
      refine wp_seq_k fun K35 k35 => ?_
      refine cx_block fun Q36 x36 y36 r36 o36 => ?_
      replace HB2_2 := rw_kn g34 HB2_2
      replace HB6_11 := rw_kn g34 HB6_11
      replace hv := hv.kn g34
      replace ow6 := ow6.kn g34
      replace hk10 := hk10.kn g34
      replace HG := grown_trans HG g34
      refine rx_tail (sv34.st w34) (by kernel_rfl) 15 [(44, Sp.is (.slice ao6 A.length cap6)), (45, Sp.is (.int .i64 ((q : Int)))), (46, Sp.is (.int .i64 (((q - 1 : Nat) : Int)))), (47, Sp.is (.slice ao6 A.length cap6)), (48, Sp.is (.int .i64 ((q : Int)))), (49, Sp.is (.slice ao6 A.length cap6)), (50, Sp.is (.int .i64 ((q : Int)))), (51, Sp.is (pk ((bO ao6)) (oO ao6 + q * 1))), (52, Sp.is (.int .i64 v2)), (53, Sp.is (.slice ao6 A.length cap6)), (54, Sp.is (.int .i64 ((q : Int)))), (55, Sp.is (.int .i64 (((q - 1 : Nat) : Int)))), (56, Sp.is (pk ((bO ao6)) (oO ao6 + (q - 1) * 1))), (57, Sp.is (.int .i64 v1)), (58, Sp.is (pk ((bO ao6)) (oO ao6 + (q - 1) * 1)))] rfl (by kernel_rfl) (by kernel_rfl) (by kernel_rfl) [3, 4] (by kernel_rfl)
        ⟨ym r5, ym r5, ybc r6 (fun _ => rn_sub (by rw [wrap_i64 (by omega) (by omega)]; omega)), ym r5, ym r5, ym r5, ym r5, ox_index rfl rfl trivial (oy rfl rfl) (oy rfl rfl) (fun w => ix_sl Try.underlying37 (by kernel_rfl) ((Sl.of_own ow6)) (by omega) (rfl) w) (fun _ => rfl), ox_load rfl rfl trivial (oy rfl rfl) (fun _ g => loadsAt (tyInt64 v2) (by rw [← hx_v2]; exact el_range (Sl.of_own (ow6.kn g)) ce_len (by omega) (by decide))) (fun _ => rfl), ym r5, ym r5, ybc r6 (fun _ => rn_sub (by rw [wrap_i64 (by omega) (by omega)]; omega)), ox_index rfl rfl trivial (oy rfl rfl) (oy rfl rfl) (fun w => ix_sl Try.underlying37 (by kernel_rfl) ((Sl.of_own ow6)) (by omega) (rfl) w) (fun _ => rfl), ox_load rfl rfl trivial (oy rfl rfl) (fun _ g => loadsAt (tyInt64 v1) (by rw [← hx_v1]; exact el_range (Sl.of_own (ow6.kn g)) ce_len (by omega) (by decide))) (fun _ => rfl), ox_index rfl rfl trivial (oy rfl rfl) (oy rfl rfl) (fun w => ix_sl Try.underlying37 (by kernel_rfl) ((Sl.of_own ow6)) (by omega) (rfl) w) (fun _ => rfl), trivial⟩ ⟨fun o ho => by obtain rfl := Option.some.inj ho; exact px_move 5 47 (.inl rfl) rfl rfl trivial (fun _ _ h => h), fun o ho => by obtain rfl := Option.some.inj ho; exact px_move 9 48 (.inl rfl) rfl rfl trivial (fun _ _ h => h), trivial⟩
        [] (by kernel_rfl) trivial ⟨.inl rfl, .inl rfl, .inl rfl, .inl rfl, .inl rfl, .inl rfl, .inl rfl, .inl rfl, .inl rfl, .inl rfl, .inl rfl, .inl rfl, .inl rfl, .inl rfl, .inl rfl, trivial⟩ (by kernel_rfl) fun a37 w37 g37 st37 nd37 => ?_
      obtain ⟨hn37, hd37, e37_44, e37_45, e37_46, e37_47, e37_48, e37_49, e37_50, e37_51, e37_52, e37_53, e37_54, e37_55, e37_56, e37_57, e37_58, e37_28, e37_29, e37_30, e37_31, e37_32, e37_33, e37_34, e37_35, e37_36, e37_37, e37_38, e37_39, e37_40, e37_41, e37_9, e37_27, e37_21, e37_22, e37_23, e37_24, e37_8, e37_7, e37_6, e37_5, e37_4, e37_2, e37_0, e37_1, e37_14, e37_19, e37_20, -⟩ := st37
      have sv37 : Sv 115 [] [(28, _), (29, _), (30, _), (31, _), (32, _), (33, _), (34, _), (35, _), (36, _), (37, _), (38, _), (39, _), (40, _), (41, _), (9, _), (27, _), (21, _), (22, _), (23, _), (24, _), (8, _), (7, _), (6, _), (5, _), (4, _), (2, _), (0, _), (1, _), (14, _), (19, _), (20, _), (47, _), (48, _), (52, _), (57, _), (58, _)] a37 := ⟨hn37, hd37, e37_28, e37_29, e37_30, e37_31, e37_32, e37_33, e37_34, e37_35, e37_36, e37_37, e37_38, e37_39, e37_40, e37_41, e37_9, e37_27, e37_21, e37_22, e37_23, e37_24, e37_8, e37_7, e37_6, e37_5, e37_4, e37_2, e37_0, e37_1, e37_14, e37_19, e37_20, e37_47, e37_48, e37_52, e37_57, e37_58, trivial⟩
      replace HB2_2 := rw_kn g37 HB2_2
      replace HB6_11 := rw_kn g37 HB6_11
      replace hv := hv.kn g37
      replace ow6 := ow6.kn g37
      replace hk10 := hk10.kn g37
      replace HG := grown_trans HG g37
      refine tl_storeEW (c := ce) (el := v2) sv37 rfl rfl rfl rfl rfl rfl rfl (tyInt64 v2) ow6 ce_len (by decide) (by first | omega | (simp only [List.length_set]; omega)) rfl fun w38 g38 h38 => ?_
      replace HB2_2 := row_of g38 HB2_2 (fun e => ap_ow6_B2_2 _ (row_fp (j := (q - 1)) ow6 (by omega) rfl) (Option.some.inj e).symm)
      replace HB6_11 := row_of g38 HB6_11 (fun e => ap_ow6_B6_11 _ (row_fp (j := (q - 1)) ow6 (by omega) rfl) (Option.some.inj e).symm)
      replace hv := hv.offR g38 (fun k hk e => ap_hv_ow6 k hk (row_fp (j := (q - 1)) ow6 (by omega) e))
      replace hk10 := hk10.offR g38 (fun k hk e => ap_hk10_ow6 k hk (row_fp (j := (q - 1)) ow6 (by omega) e))
      replace HG := grown_from HG g38 fun k e => lo_ow6 k (row_fp (j := (q - 1)) ow6 (by omega) e)
      replace ow6 := h38
      refine sx_hv sv37 1 [(59, pk ((bO ao6)) (oO ao6 + q * 1))]
        ⟨ox_index rfl rfl trivial (oy rfl rfl) (oy rfl rfl) (fun w => ix_sl Try.underlying37 (by kernel_rfl) ((Sl.of_own ow6)) (by omega) (rfl) w) (fun _ => rfl), trivial⟩ fun a39 w39 g39 sv39 => ?_
      replace HB2_2 := rw_kn g39 HB2_2
      replace HB6_11 := rw_kn g39 HB6_11
      replace hv := hv.kn g39
      replace ow6 := ow6.kn g39
      replace hk10 := hk10.kn g39
      replace HG := grown_trans HG g39
      refine tl_storeEW (c := ce) (el := v1) sv39 rfl rfl rfl rfl rfl rfl rfl (tyInt64 v1) ow6 ce_len (by decide) (by first | omega | (simp only [List.length_set]; omega)) rfl fun w40 g40 h40 => ?_
      replace HB2_2 := row_of g40 HB2_2 (fun e => ap_ow6_B2_2 _ (row_fp (j := q) ow6 (by omega) rfl) (Option.some.inj e).symm)
      replace HB6_11 := row_of g40 HB6_11 (fun e => ap_ow6_B6_11 _ (row_fp (j := q) ow6 (by omega) rfl) (Option.some.inj e).symm)
      replace hv := hv.offR g40 (fun k hk e => ap_hv_ow6 k hk (row_fp (j := q) ow6 (by omega) e))
      replace hk10 := hk10.offR g40 (fun k hk e => ap_hk10_ow6 k hk (row_fp (j := q) ow6 (by omega) e))
      replace HG := grown_from HG g40 fun k e => lo_ow6 k (row_fp (j := q) ow6 (by omega) e)
      replace ow6 := h40
      have sv41 : Sv 115 [] [(28, _), (29, _), (30, _), (31, _), (32, _), (33, _), (34, _), (35, _), (36, _), (37, _), (38, _), (39, _), (40, _), (41, _), (9, _), (27, _), (21, _), (22, _), (23, _), (24, _), (8, _), (7, _), (6, _), (5, _), (4, _), (2, _), (0, _), (1, _), (14, _), (19, _), (20, _)] a39 := sv39.dl [59, 47, 48, 52, 57, 58]
      refine tl_nil ?_
      refine y36 _ _ ?_
      refine k35 _ _ ?_
      refine wp_region_lit ?_
      refine sx_hv sv41 2 [(42, .int .i64 ((q : Int))), (43, .int .i64 (((q - 1 : Nat) : Int)))]
        ⟨ym r5, ybc r6 (fun _ => rn_sub (by rw [wrap_i64 (by omega) (by omega)]; omega)), trivial⟩ fun a42 w42 g42 sv42 => ?_
      refine tl_as (v := .int .i64 (((q - 1 : Nat) : Int))) sv42 r6 fun a43 sv43 => ?_
      refine tl_nil ?_
      replace HB2_2 := rw_kn g42 HB2_2
      replace HB6_11 := rw_kn g42 HB6_11
      replace hv := hv.kn g42
      replace ow6 := ow6.kn g42
      replace hk10 := hk10.kn g42
      replace HG := grown_trans HG g42
      exact ⟨⟨q - 1, (bl.set (q - 1) v2).set q v1, by omega, swap_perm hbp (by omega) hq0 (gd_is hx_v1) (gd_is hx_v2), hK.swap hq0 hqi (by omega) (gd_is hx_v1) (gd_is hx_v2) hgt, ⟨sv43.1, sv43.2.1, sv43.2.2.1, sv43.2.2.2.2.2.2.2.2.2.2.2.2.2.2.2.2.2.2.2.1, sv43.2.2.2.2.2.2.2.2.2.2.2.2.2.2.2.2.2.2.2.2.1, sv43.2.2.2.2.2.2.2.2.2.2.2.2.2.2.2.2.2.2.2.2.2.1, sv43.2.2.2.2.2.2.2.2.2.2.2.2.2.2.2.2.2.2.2.2.2.2.1, sv43.2.2.2.2.2.2.2.2.2.2.2.2.2.2.2.2.2.2.2.2.2.2.2.1, sv43.2.2.2.2.2.2.2.2.2.2.2.2.2.2.2.2.2.2.2.2.2.2.2.2.1, sv43.2.2.2.2.2.2.2.2.2.2.2.2.2.2.2.2.2.2.2.2.2.2.2.2.2.1, sv43.2.2.2.2.2.2.2.2.2.2.2.2.2.2.2.2.2.2.2.2.2.2.2.2.2.2.1, sv43.2.2.2.2.2.2.2.2.2.2.2.2.2.2.2.2.2.2.2.2.2.2.2.2.2.2.2.1, sv43.2.2.2.2.2.2.2.2.2.2.2.2.2.2.2.2.2.2.2.2.2.2.2.2.2.2.2.2.1, sv43.2.2.2.2.2.2.2.2.2.2.2.2.2.2.2.2.2.2.2.2.2.2.2.2.2.2.2.2.2.1, sv43.2.2.2.2.2.2.2.2.2.2.2.2.2.2.2.2.2.2.2.2.2.2.2.2.2.2.2.2.2.2.1, sv43.2.2.2.2.2.2.2.2.2.2.2.2.2.2.2.2.2.2.2.2.2.2.2.2.2.2.2.2.2.2.2.1, sv43.2.2.2.2.2.2.2.2.2.2.2.2.2.2.2.2.2.2.2.2.2.2.2.2.2.2.2.2.2.2.2.2.1, sv43.2.2.2.2.2.2.2.2.2.2.2.2.2.2.2.2.2.2.2.2.2.2.2.2.2.2.2.2.2.2.2.2.2.1, sv43.2.2.2.2.2.2.2.2.2.2.2.2.2.2.2.2.2.2.2.2.2.2.2.2.2.2.2.2.2.2.2.2.2.2.1, trivial⟩, HG, HB2_2, HB6_11, hv, ow6, hk10, ap_ow6_B2_2, ap_ow6_B6_11, ap_hv_ow6, ap_hk10_ow6, lo_ow6⟩, by rw [show _ = _ from sv43.2.2.1, show _ = _ from sv28.2.2.1]; simp [intOf]; omega⟩
    · have hst : q = 0 ∨ ¬ gd bl q < gd bl (q - 1) := .inr (by rw [gd_is hx_v2, gd_is hx_v1]; exact hgt)
      refine rx_av sv28 [(28, .int .i64 ((q : Int))), (29, .bool true), (30, .bool true), (31, .slice ao6 A.length cap6), (32, .int .i64 ((q : Int))), (33, .int .i64 (((q - 1 : Nat) : Int))), (34, pk ((bO ao6)) (oO ao6 + (q - 1) * 1)), (35, .int .i64 v1), (36, .slice ao6 A.length cap6), (37, .int .i64 ((q : Int))), (38, pk ((bO ao6)) (oO ao6 + q * 1)), (39, .int .i64 v2), (40, .bool false), (41, .bool false)]
        ⟨ym r5, ybc r6 (fun _ => rn_gtr (decide_eq_true (by omega))), ym r5, ox_move 5 31 (.inl rfl) rfl rfl (gy rfl rfl rfl) (fun _ _ h => h), ox_move 9 32 (.inl rfl) rfl rfl (gy rfl rfl rfl) (fun _ _ h => h), ox_bin rfl rfl (gy rfl rfl rfl) (oy rfl rfl) rfl (fun _ => rn_sub (by rw [wrap_i64 (by omega) (by omega)]; omega)) (fun _ => rfl), ox_index rfl rfl (gy rfl rfl rfl) (oy rfl rfl) (oy rfl rfl) (fun w => ix_sl Try.underlying37 (by kernel_rfl) ((Sl.of_own ow6)) (by omega) (rfl) w) (fun _ => rfl), ox_load rfl rfl (gy rfl rfl rfl) (oy rfl rfl) (fun _ g => loadsAt (tyInt64 v1) (by rw [← hx_v1]; exact el_range (Sl.of_own (ow6.kn g)) ce_len (by omega) (by decide))) (fun _ => rfl), ox_move 5 36 (.inl rfl) rfl rfl (gy rfl rfl rfl) (fun _ _ h => h), ox_move 9 37 (.inl rfl) rfl rfl (gy rfl rfl rfl) (fun _ _ h => h), ox_index rfl rfl (gy rfl rfl rfl) (oy rfl rfl) (oy rfl rfl) (fun w => ix_sl Try.underlying37 (by kernel_rfl) ((Sl.of_own ow6)) (by omega) (rfl) w) (fun _ => rfl), ox_load rfl rfl (gy rfl rfl rfl) (oy rfl rfl) (fun _ g => loadsAt (tyInt64 v2) (by rw [← hx_v2]; exact el_range (Sl.of_own (ow6.kn g)) ce_len (by omega) (by decide))) (fun _ => rfl), ox_bin rfl rfl (gy rfl rfl rfl) (oy rfl rfl) (oy rfl rfl) (fun _ => rn_gtr (decide_eq_false hgt)) (fun _ => rfl), ox_pick rfl rfl trivial (oy rfl rfl) (oy rfl rfl) (fun _ => rfl), trivial⟩ fun a44 w44 g44 sv44 => ?_
      refine k30 _ _ ?_
      refine cx_ifF sv44 rfl rfl ?_
      refine wp_exit ?_
      repeat refine then_exit ?_
      refine x27 _ _ ?_
      refine y23 _ _ ?_
      refine k22 _ _ ?_
      refine wp_region_lit ?_
      refine sx_hv sv44 2 [(25, .int .i64 ((i : Int))), (26, .int .i64 (((i + 1 : Nat) : Int)))]
        ⟨ym r5, ybc r6 (fun _ => rn_add (by rw [wrap_i64 (by omega) (by omega)]; omega)), trivial⟩ fun a45 w45 g45 sv45 => ?_
      have gc45 := grown_trans g44 g45
      refine tl_as (v := .int .i64 (((i + 1 : Nat) : Int))) sv45 r6 fun a46 sv46 => ?_
      refine tl_nil ?_
      replace HB2_2 := rw_kn gc45 HB2_2
      replace HB6_11 := rw_kn gc45 HB6_11
      replace hv := hv.kn gc45
      replace ow6 := ow6.kn gc45
      replace hk10 := hk10.kn gc45
      replace HG := grown_trans HG gc45
      exact ⟨⟨i + 1, bl, by omega, hbp, hK.stop hqi (by omega) (hbp.nodup_iff.2 hAN) hst, ⟨sv46.1, sv46.2.1, sv46.2.2.1, sv46.2.2.2.2.2.2.2.2.2.2.2.2.2.2.2.2.2.2.2.2.2.2.2.2.2.1, sv46.2.2.2.2.2.2.2.2.2.2.2.2.2.2.2.2.2.2.2.2.2.2.2.2.2.2.1, sv46.2.2.2.2.2.2.2.2.2.2.2.2.2.2.2.2.2.2.2.2.2.2.2.2.2.2.2.1, sv46.2.2.2.2.2.2.2.2.2.2.2.2.2.2.2.2.2.2.2.2.2.2.2.2.2.2.2.2.1, sv46.2.2.2.2.2.2.2.2.2.2.2.2.2.2.2.2.2.2.2.2.2.2.2.2.2.2.2.2.2.1, sv46.2.2.2.2.2.2.2.2.2.2.2.2.2.2.2.2.2.2.2.2.2.2.2.2.2.2.2.2.2.2.1, sv46.2.2.2.2.2.2.2.2.2.2.2.2.2.2.2.2.2.2.2.2.2.2.2.2.2.2.2.2.2.2.2.1, sv46.2.2.2.2.2.2.2.2.2.2.2.2.2.2.2.2.2.2.2.2.2.2.2.2.2.2.2.2.2.2.2.2.1, sv46.2.2.2.2.2.2.2.2.2.2.2.2.2.2.2.2.2.2.2.2.2.2.2.2.2.2.2.2.2.2.2.2.2.1, sv46.2.2.2.2.2.2.2.2.2.2.2.2.2.2.2.2.2.2.2.2.2.2.2.2.2.2.2.2.2.2.2.2.2.2.1, trivial⟩, HG, HB2_2, HB6_11, hv, ow6, hk10, ap_ow6_B2_2, ap_ow6_B6_11, ap_hv_ow6, ap_hk10_ow6, lo_ow6⟩, by rw [show _ = _ from sv46.2.2.1, show _ = _ from sv18.2.2.1]; simp [intOf]; omega⟩
  · have hS9 : InvS al A.length := fun p q h1 h2 => hS p q h1 (by omega)
    refine wp_region_lit ?_
    refine sx_hv sv18 4 [(21, .int .i64 ((i : Int))), (22, .slice ao6 A.length cap6), (23, .int .i64 ((A.length : Nat))), (24, .bool false)]
      ⟨ym r5, ym r5, ox_len (Try.underlying37) rfl rfl trivial (oy rfl rfl) (fun _ => rfl), ybt r7 (fun _ => rn_lss (decide_eq_false (by omega))), trivial⟩ fun a47 w47 g47 sv47 => ?_
    refine tl_nil ?_
    refine k20 _ _ ?_
    refine cx_ifF sv47 rfl rfl ?_
    refine wp_exit ?_
    repeat refine then_exit ?_
    refine x17 _ _ ?_
    refine k14 _ _ ?_
    refine wp_seq_k fun K48 k48 => ?_
    refine wp_region_lit ?_
    refine tl_as (v := .slice none 0 0) sv47 r6 fun a49 sv49 => ?_
    refine tl_nil ?_
    refine k48 _ _ ?_
    refine wp_seq_k fun K50 k50 => ?_
    refine wp_seq_k fun K51 k51 => ?_
    refine wp_region_lit ?_
    refine tl_as (v := .int .i64 0) sv49 r6 fun a52 sv52 => ?_
    refine tl_nil ?_
    refine k51 _ _ ?_
    refine cx_block fun Q53 x53 y53 r53 o53 => ?_
    replace HB2_2 := rw_kn g47 HB2_2
    replace HB6_11 := rw_kn g47 HB6_11
    replace hv := hv.kn g47
    replace ow6 := ow6.kn g47
    replace hk10 := hk10.kn g47
    replace HG := grown_trans HG g47
    have wt : Own w47 52 2 (.slice none 0 0) 0 (([] : List (Int × Int)).flatMap pc) := World.ownsRow_nil _ _ _ _
    have ap_wt_B2_2 : ∀ k, fpS (.slice none 0 0) k → k ≠ B2_2 := fun k hk => (fpS_nil k hk).elim
    have ap_wt_B6_11 : ∀ k, fpS (.slice none 0 0) k → k ≠ B6_11 := fun k hk => (fpS_nil k hk).elim
    have ap_hv_wt : ∀ k, fpS (.slice ao l.length cap) k → ¬ fpS (.slice none 0 0) k := fun k _ hk => (fpS_nil k hk).elim
    have ap_ow6_wt : ∀ k, fpS (.slice ao6 A.length cap6) k → ¬ fpS (.slice none 0 0) k := fun k _ hk => (fpS_nil k hk).elim
    have ap_wt_ow6 : ∀ k, fpS (.slice none 0 0) k → ¬ fpS (.slice ao6 A.length cap6) k := fun k hk _ => (fpS_nil k hk).elim
    have ap_hk10_wt : ∀ k, fpT (.slice ao10 T.length cap10) k → ¬ fpS (.slice none 0 0) k := fun k _ hk => (fpS_nil k hk).elim
    have lo_wt : ∀ k, fpS (.slice none 0 0) k → w.heap.size ≤ k := fun k hk => (fpS_nil k hk).elim
    refine wp_loop (fun a w' => ∃ (j : Nat) (n : Nat) (G : List (Int × Int)) (wo : Option Addr) (wc : Nat), (j ≤ A.length) ∧ (G.length = n) ∧ (GIv al j G) ∧ Sv 115 [] [(11, .int .i64 ((j : Int))), (10, .slice wo n wc), (21, .int .i64 ((i : Int))), (22, .slice ao6 A.length cap6), (23, .int .i64 ((A.length : Nat))), (24, .bool false), (8, .int .i64 ((i : Int))), (7, .bool true), (6, pt B6_11), (5, .slice ao6 A.length cap6), (4, .bool false), (2, pt B2_2), (0, dval k0), (1, .slice ao l.length cap), (14, .slice ao6 A.length cap6), (19, .agg #[.slice ao10 T.length cap10]), (20, .bool true)] a ∧ w.grownBy w' none ∧ w'.heap[B2_2]? = some (.cells (bv k0).toArray 29 (0, 0)) ∧ w'.heap[B6_11]? = some (.cells ([.slice ao10 T.length cap10]).toArray 34 (0, 0)) ∧ SlB w' 1 (.slice ao l.length cap) l.length (l.flatMap ce) ∧ Own w' 2 1 (.slice ao6 A.length cap6) A.length (al.flatMap ce) ∧ RdTg w' (.slice ao10 T.length cap10) T ∧ Own w' 52 2 (.slice wo n wc) n (G.flatMap pc) ∧ (∀ k, fpS (.slice wo n wc) k → k ≠ B2_2) ∧ (∀ k, fpS (.slice wo n wc) k → k ≠ B6_11) ∧ (∀ k, fpS (.slice ao l.length cap) k → ¬ fpS (.slice wo n wc) k) ∧ (∀ k, fpS (.slice ao6 A.length cap6) k → ¬ fpS (.slice wo n wc) k) ∧ (∀ k, fpS (.slice wo n wc) k → ¬ fpS (.slice ao6 A.length cap6) k) ∧ (∀ k, fpT (.slice ao10 T.length cap10) k → ¬ fpS (.slice wo n wc) k) ∧ (∀ k, fpS (.slice wo n wc) k → w.heap.size ≤ k)) (fun a _ => (A.length - intOf (a.tmps.getD 11 undef)).toNat) ⟨0, 0, [], none, 0, Nat.zero_le _, rfl, GIv.zero _, ⟨sv52.1, sv52.2.1, sv52.2.2.1, sv52.2.2.2.1, sv52.2.2.2.2.1, sv52.2.2.2.2.2.1, sv52.2.2.2.2.2.2.1, sv52.2.2.2.2.2.2.2.1, sv52.2.2.2.2.2.2.2.2.1, sv52.2.2.2.2.2.2.2.2.2.1, sv52.2.2.2.2.2.2.2.2.2.2.1, sv52.2.2.2.2.2.2.2.2.2.2.2.1, sv52.2.2.2.2.2.2.2.2.2.2.2.2.1, sv52.2.2.2.2.2.2.2.2.2.2.2.2.2.1, sv52.2.2.2.2.2.2.2.2.2.2.2.2.2.2.1, sv52.2.2.2.2.2.2.2.2.2.2.2.2.2.2.2.1, sv52.2.2.2.2.2.2.2.2.2.2.2.2.2.2.2.2.1, sv52.2.2.2.2.2.2.2.2.2.2.2.2.2.2.2.2.2.1, sv52.2.2.2.2.2.2.2.2.2.2.2.2.2.2.2.2.2.2.1, trivial⟩, HG, HB2_2, HB6_11, hv, ow6, hk10, wt, ap_wt_B2_2, ap_wt_B6_11, ap_hv_wt, ap_ow6_wt, ap_wt_ow6, ap_hk10_wt, lo_wt⟩ fun a54 w54 hI54 => ?_
    clear HB2_2
    clear HB6_11
    clear hv
    clear ow6
    clear hk10
    clear wt
    clear HG
    obtain ⟨j, n, G, wo, wc, hj, hGn, hGI, sv54, HG, HB2_2, HB6_11, hv, ow6, hk10, wt, ap_wt_B2_2, ap_wt_B6_11, ap_hv_wt, ap_ow6_wt, ap_wt_ow6, ap_hk10_wt, lo_wt⟩ := hI54
    refine wp_seq_k fun K55 k55 => ?_
    refine wp_seq_k fun K56 k56 => ?_
    by_cases hja : j < A.length
    · have hnj := hGI.2.2.2
      obtain ⟨x, hx_x⟩ : ∃ x, al[j]'(by omega) = x := ⟨_, rfl⟩
      have hxb := isAddr_iff.1 (hAA x (hp.mem_iff.1 (hx_x ▸ List.getElem_mem _)))
      refine wp_region_lit ?_
      refine sx_hv sv54 4 [(60, .int .i64 ((j : Int))), (61, .slice ao6 A.length cap6), (62, .int .i64 ((A.length : Nat))), (63, .bool true)]
        ⟨ym r5, ym r5, ox_len (Try.underlying37) rfl rfl trivial (oy rfl rfl) (fun _ => rfl), ybt r7 (fun _ => rn_lss (decide_eq_true (by omega))), trivial⟩ fun a57 w57 g57 sv57 => ?_
      refine tl_nil ?_
      refine k56 _ _ ?_
      refine cx_ifT sv57 rfl rfl ?_
      refine wp_skip ?_
      refine k55 _ _ ?_
      refine wp_seq_k fun K58 k58 => ?_
      refine cx_block fun Q59 x59 y59 r59 o59 => ?_
      refine wp_seq_k fun K60 k60 => ?_
      refine wp_region_lit ?_
      refine sx_hv sv57 2 [(66, .slice wo n wc), (67, .int .i64 ((n : Nat)))]
        ⟨ym r5, ox_len (Try.underlying51) rfl rfl trivial (oy rfl rfl) (fun _ => rfl), trivial⟩ fun a61 w61 g61 sv61 => ?_
      have gc61 := grown_trans g57 g61
      refine tl_as (v := .int .i64 ((n : Nat))) sv61 r6 fun a62 sv62 => ?_
      refine tl_nil ?_
      refine k60 _ _ ?_
      refine wp_seq_k fun K63 k63 => ?_
      replace HB2_2 := rw_kn gc61 HB2_2
      replace HB6_11 := rw_kn gc61 HB6_11
      replace hv := hv.kn gc61
      replace ow6 := ow6.kn gc61
      replace hk10 := hk10.kn gc61
      replace wt := wt.kn gc61
      replace HG := grown_trans HG gc61
      rcases g_ways (G := G) (x := x) hGn with hn0 | ⟨hn0, e, ⟨hjn, hx_e⟩, hex⟩ | ⟨hn0, e, ⟨hjn, hx_e⟩, hex⟩
      · have hno : n = 0 ∨ ∃ hj : n - 1 < G.length, (G[n - 1]'hj).2 ≠ x := .inl hn0
        refine rx_av sv62 [(68, .int .i64 ((n : Nat))), (69, .bool false), (70, .bool false), (71, undef), (72, undef), (73, undef), (74, undef), (75, undef), (76, undef), (77, undef), (78, undef), (79, undef), (80, undef), (81, undef), (82, .bool false)]
          ⟨ym r5, ybc r6 (fun _ => rn_gtr (decide_eq_false (by omega))), ym r5, ox_off (gn rfl rfl rfl) rfl (fun _ => rfl), ox_off (gn rfl rfl rfl) rfl (fun _ => rfl), ox_off (gn rfl rfl rfl) rfl (fun _ => rfl), ox_off (gn rfl rfl rfl) rfl (fun _ => rfl), ox_off (gn rfl rfl rfl) rfl (fun _ => rfl), ox_off (gn rfl rfl rfl) rfl (fun _ => rfl), ox_off (gn rfl rfl rfl) rfl (fun _ => rfl), ox_off (gn rfl rfl rfl) rfl (fun _ => rfl), ox_off (gn rfl rfl rfl) rfl (fun _ => rfl), ox_off (gn rfl rfl rfl) rfl (fun _ => rfl), ox_off (gn rfl rfl rfl) rfl (fun _ => rfl), ox_pick rfl rfl trivial (oy rfl rfl) rfl (fun _ => rfl), trivial⟩ fun a64 w64 g64 sv64 => ?_
        refine k63 _ _ ?_
        refine cx_ifF sv64 rfl rfl ?_
        replace HB2_2 := rw_kn g64 HB2_2
        replace HB6_11 := rw_kn g64 HB6_11
        replace hv := hv.kn g64
        replace ow6 := ow6.kn g64
        replace hk10 := hk10.kn g64
        replace wt := wt.kn g64
        replace HG := grown_trans HG g64
        have gd65 := grown_drew w64
        replace HB2_2 := rw_kn gd65 HB2_2
        replace HB6_11 := rw_kn gd65 HB6_11
        replace hv := hv.kn gd65
        replace ow6 := ow6.kn gd65
        replace hk10 := hk10.kn gd65
        replace wt := wt.kn gd65
        replace HG := grown_trans HG gd65
        refine wp_region_noPanic ?_
        refine region_script (fun w' => w'.rangeAt (bO ao6) (oO ao6 + j * 1) ([.int .i64 x]) ∧ True) [0, 1, 2, 3, 4, 5, 6, 7, 8, 9] [10, 11, 12, 13] (by kernel_rfl) (by kernel_rfl) (fun _ _ d _ _ h => by cases d <;> exact h) rfl (by kernel_rfl) ⟨(by rw [← hx_x]; exact el_range (Sl.of_own ow6) ce_len (by omega) (by decide)), trivial⟩ ?_
        simp only [List.filterMap_cons, List.filterMap_nil, List.getElem?_toArray, List.getElem?_cons_succ, List.getElem?_cons_zero]
        refine tk_px (v := .slice wo n wc) w64.drew sv64 rfl (by kernel_rfl) (px_move 10 92 (.inl rfl) rfl rfl trivial (fun _ _ h => h)) fun a66 sv66 => ?_
        refine tk_px (v := .slice ao6 A.length cap6) w64.drew sv66 rfl (by kernel_rfl) (px_move 5 93 (.inl rfl) rfl rfl trivial (fun _ _ h => h)) fun a67 sv67 => ?_
        refine tk_px (v := .int .i64 ((j : Int))) w64.drew sv67 rfl (by kernel_rfl) (px_move 11 94 (.inl rfl) rfl rfl trivial (fun _ _ h => h)) fun a68 sv68 => ?_
        refine tk_px (v := pk ((bO ao6)) (oO ao6 + j * 1)) w64.drew sv68 rfl (by kernel_rfl) (px_index rfl rfl trivial (oy rfl rfl) (oy rfl rfl) (fun w => ix_sl Try.underlying37 (by kernel_rfl) ((Sl.of_own ow6)) (by omega) (rfl) w) (fun _ => rfl)) fun a69 sv69 => ?_
        refine tk_load sv69 rfl rfl rfl rfl ⟨rfl, rfl⟩ (fun w hS => loadsAt (tyInt64 x) hS.1) fun a70 sv70 => ?_
        refine tk_px (v := .slice ao6 A.length cap6) w64.drew sv70 rfl (by kernel_rfl) (px_move 5 97 (.inl rfl) rfl rfl trivial (fun _ _ h => h)) fun a71 sv71 => ?_
        refine tk_px (v := .int .i64 ((j : Int))) w64.drew sv71 rfl (by kernel_rfl) (px_move 11 98 (.inl rfl) rfl rfl trivial (fun _ _ h => h)) fun a72 sv72 => ?_
        refine tk_px (v := pk ((bO ao6)) (oO ao6 + j * 1)) w64.drew sv72 rfl (by kernel_rfl) (px_index rfl rfl trivial (oy rfl rfl) (oy rfl rfl) (fun w => ix_sl Try.underlying37 (by kernel_rfl) ((Sl.of_own ow6)) (by omega) (rfl) w) (fun _ => rfl)) fun a73 sv73 => ?_
        refine tk_load sv73 rfl rfl rfl rfl ⟨rfl, rfl⟩ (fun w hS => loadsAt (tyInt64 x) hS.1) fun a74 sv74 => ?_
        refine tk_px (v := .int .i64 ((x + 1))) w64.drew sv74 rfl (by kernel_rfl) (px_bin rfl rfl trivial (oy rfl rfl) rfl (fun _ => rn_add (by rw [wrap_i64 (by omega) (by omega)])) (fun _ => rfl)) fun a75 sv75 => ?_
        have sv76 : Sv 115 [] [(101, _), (96, _), (92, _), (68, _), (69, _), (70, _), (71, _), (72, _), (73, _), (74, _), (75, _), (76, _), (77, _), (78, _), (79, _), (80, _), (81, _), (82, _), (12, _), (66, _), (67, _), (60, _), (61, _), (62, _), (63, _), (11, _), (10, _), (21, _), (22, _), (23, _), (24, _), (8, _), (7, _), (6, _), (5, _), (4, _), (2, _), (0, _), (1, _), (14, _), (19, _), (20, _)] a75 := sv75.dl [100, 99, 98, 97, 95, 94, 93]
        change wpList _ _ _ _ _ _
        refine sx_hv sv76 1 [(102, .agg #[.int .i64 x, .int .i64 ((x + 1))])]
          ⟨ox_build (vs := [.int .i64 x, .int .i64 ((x + 1))]) rfl rfl trivial ⟨(oy rfl rfl), (oy rfl rfl), trivial⟩ (fun _ => bI2' x (x + 1) _) (fun _ => rfl), trivial⟩ fun a77 w77 g77 sv77 => ?_
        replace HB2_2 := rw_kn g77 HB2_2
        replace HB6_11 := rw_kn g77 HB6_11
        replace hv := hv.kn g77
        replace ow6 := ow6.kn g77
        replace hk10 := hk10.kn g77
        replace wt := wt.kn g77
        replace HG := grown_trans HG g77
        refine tl_nil ⟨⟨(by rw [← hx_x]; exact el_range (Sl.of_own ow6) ce_len (by omega) (by decide)), trivial⟩, ?_⟩
        change wpList _ _ _ _ _ _
        refine tl_lit (e := 52) (u := .agg #[.int .i64 x, .int .i64 ((x + 1))]) sv77 r6 (bSg x (x + 1)) fun a78 w78 V eq_V g78 HV sv78 => ?_
        have ne_V_B2_2 := nb_ne HB2_2 eq_V
        have ne_V_B6_11 := nb_ne HB6_11 eq_V
        have lo_V := nb_lo HG eq_V
        have ap_hv_V := nb_ap (hv.lt) eq_V
        have ap_ow6_V := nb_ap (Own.ltS ow6) eq_V
        have ap_hk10_V := nb_ap (hk10.lt) eq_V
        have ap_wt_V := nb_ap (Own.ltS wt) eq_V
        replace HB2_2 := rw_kn g78 HB2_2
        replace HB6_11 := rw_kn g78 HB6_11
        replace hv := hv.kn g78
        replace ow6 := ow6.kn g78
        replace hk10 := hk10.kn g78
        replace wt := wt.kn g78
        replace HG := grown_trans HG g78
        refine tl_nil ⟨⟨(by rw [← hx_x]; exact el_range (Sl.of_own ow6) ce_len (by omega) (by decide)), trivial⟩, ?_⟩
        change wpList _ _ _ _ _ _
        refine tl_app gapsT sv78 rfl rfl rfl rfl rfl rfl rfl rfl wt (sl_pc HV) rfl (by omega) fun a79 aoX capX w79 ox stp sv79 => ?_
        have ap_ox_B2_2 : ∀ k, fpS (.slice aoX (n + 1) capX) k → k ≠ B2_2 := fun k hk => (stp.2 k hk).elim (ap_wt_B2_2 k) (fun h => nh_ne HB2_2 h)
        have ap_ox_B6_11 : ∀ k, fpS (.slice aoX (n + 1) capX) k → k ≠ B6_11 := fun k hk => (stp.2 k hk).elim (ap_wt_B6_11 k) (fun h => nh_ne HB6_11 h)
        have ap_hv_ox : ∀ k, fpS (.slice ao l.length cap) k → ¬ fpS (.slice aoX (n + 1) capX) k := fun k hk hx => (stp.2 k hx).elim (ap_hv_wt k hk) (fun h => absurd (hv.lt k hk) (Nat.not_lt.2 h))
        have ap_ow6_ox : ∀ k, fpS (.slice ao6 A.length cap6) k → ¬ fpS (.slice aoX (n + 1) capX) k := fun k hk hx => (stp.2 k hx).elim (ap_ow6_wt k hk) (fun h => absurd (Own.ltS ow6 k hk) (Nat.not_lt.2 h))
        have ap_ox_ow6 : ∀ k, fpS (.slice aoX (n + 1) capX) k → ¬ fpS (.slice ao6 A.length cap6) k := fun k hk hx => ap_ow6_ox k hx hk
        have ap_hk10_ox : ∀ k, fpT (.slice ao10 T.length cap10) k → ¬ fpS (.slice aoX (n + 1) capX) k := fun k hk hx => (stp.2 k hx).elim (ap_hk10_wt k hk) (fun h => absurd (hk10.lt k hk) (Nat.not_lt.2 h))
        have lo_ox : ∀ k, fpS (.slice aoX (n + 1) capX) k → w.heap.size ≤ k := fun k hk => (stp.2 k hk).elim (lo_wt k) (fun h => Nat.le_trans HG.size h)
        replace HB2_2 := row_of stp.1 HB2_2 (fun e => ap_wt_B2_2 _ e.symm rfl)
        replace HB6_11 := row_of stp.1 HB6_11 (fun e => ap_wt_B6_11 _ e.symm rfl)
        replace hv := hv.offR stp.1 (fun k hk e => ap_hv_wt k hk (e))
        replace ow6 := ow6.offR stp.1 (fun k hk e => ap_ow6_wt k hk (e))
        replace hk10 := hk10.offR stp.1 (fun k hk e => ap_hk10_wt k hk (e))
        replace HG := grown_from HG stp.1 fun k e => lo_wt k (e)
        rw [pc_snoc] at ox
        refine tl_nil ⟨⟨(by rw [← hx_x]; exact el_range (Sl.of_own ow6) ce_len (by omega) (by decide)), trivial⟩, ?_⟩
        change wpList _ _ _ _ _ _
        refine tl_as (v := .slice aoX (n + 1) capX) sv79 r6 fun a80 sv80 => ?_
        refine tl_nil ⟨⟨(by rw [← hx_x]; exact el_range (Sl.of_own ow6) ce_len (by omega) (by decide)), trivial⟩, ?_⟩
        refine NoPanic.normal ?_
        have sv81 : Sv 115 [] [(10, _), (68, _), (69, _), (70, _), (71, _), (72, _), (73, _), (74, _), (75, _), (76, _), (77, _), (78, _), (79, _), (80, _), (81, _), (82, _), (12, _), (66, _), (67, _), (60, _), (61, _), (62, _), (63, _), (11, _), (21, _), (22, _), (23, _), (24, _), (8, _), (7, _), (6, _), (5, _), (4, _), (2, _), (0, _), (1, _), (14, _), (19, _), (20, _)] a80 := sv80.dl [104, 103, 102, 101, 96, 92]
        refine y59 _ _ ?_
        refine k58 _ _ ?_
        refine wp_region_lit ?_
        refine sx_hv sv81 2 [(64, .int .i64 ((j : Int))), (65, .int .i64 (((j + 1 : Nat) : Int)))]
          ⟨ym r5, ybc r6 (fun _ => rn_add (by rw [wrap_i64 (by omega) (by omega)]; omega)), trivial⟩ fun a82 w82 g82 sv82 => ?_
        refine tl_as (v := .int .i64 (((j + 1 : Nat) : Int))) sv82 r6 fun a83 sv83 => ?_
        refine tl_nil ?_
        replace HB2_2 := rw_kn g82 HB2_2
        replace HB6_11 := rw_kn g82 HB6_11
        replace hv := hv.kn g82
        replace ow6 := ow6.kn g82
        replace hk10 := hk10.kn g82
        replace ox := ox.kn g82
        replace HG := grown_trans HG g82
        exact ⟨⟨j + 1, n + 1, G ++ [(x, x + 1)], aoX, capX, by omega, by simp [hGn], hGI.app2 (fun p q h1 h2 => hS9 p q h1 (by omega)) (gd_is hx_x) hGn hno, ⟨sv83.1, sv83.2.1, sv83.2.2.1, sv83.2.2.2.2.2.1, sv83.2.2.2.2.2.2.2.2.2.2.2.2.2.2.2.2.2.2.2.2.2.2.2.2.2.2.2.2.1, sv83.2.2.2.2.2.2.2.2.2.2.2.2.2.2.2.2.2.2.2.2.2.2.2.2.2.2.2.2.2.1, sv83.2.2.2.2.2.2.2.2.2.2.2.2.2.2.2.2.2.2.2.2.2.2.2.2.2.2.2.2.2.2.1, sv83.2.2.2.2.2.2.2.2.2.2.2.2.2.2.2.2.2.2.2.2.2.2.2.2.2.2.2.2.2.2.2.1, sv83.2.2.2.2.2.2.2.2.2.2.2.2.2.2.2.2.2.2.2.2.2.2.2.2.2.2.2.2.2.2.2.2.1, sv83.2.2.2.2.2.2.2.2.2.2.2.2.2.2.2.2.2.2.2.2.2.2.2.2.2.2.2.2.2.2.2.2.2.1, sv83.2.2.2.2.2.2.2.2.2.2.2.2.2.2.2.2.2.2.2.2.2.2.2.2.2.2.2.2.2.2.2.2.2.2.1, sv83.2.2.2.2.2.2.2.2.2.2.2.2.2.2.2.2.2.2.2.2.2.2.2.2.2.2.2.2.2.2.2.2.2.2.2.1, sv83.2.2.2.2.2.2.2.2.2.2.2.2.2.2.2.2.2.2.2.2.2.2.2.2.2.2.2.2.2.2.2.2.2.2.2.2.1, sv83.2.2.2.2.2.2.2.2.2.2.2.2.2.2.2.2.2.2.2.2.2.2.2.2.2.2.2.2.2.2.2.2.2.2.2.2.2.1, sv83.2.2.2.2.2.2.2.2.2.2.2.2.2.2.2.2.2.2.2.2.2.2.2.2.2.2.2.2.2.2.2.2.2.2.2.2.2.2.1, sv83.2.2.2.2.2.2.2.2.2.2.2.2.2.2.2.2.2.2.2.2.2.2.2.2.2.2.2.2.2.2.2.2.2.2.2.2.2.2.2.1, sv83.2.2.2.2.2.2.2.2.2.2.2.2.2.2.2.2.2.2.2.2.2.2.2.2.2.2.2.2.2.2.2.2.2.2.2.2.2.2.2.2.1, sv83.2.2.2.2.2.2.2.2.2.2.2.2.2.2.2.2.2.2.2.2.2.2.2.2.2.2.2.2.2.2.2.2.2.2.2.2.2.2.2.2.2.1, sv83.2.2.2.2.2.2.2.2.2.2.2.2.2.2.2.2.2.2.2.2.2.2.2.2.2.2.2.2.2.2.2.2.2.2.2.2.2.2.2.2.2.2.1, trivial⟩, HG, HB2_2, HB6_11, hv, ow6, hk10, ox, ap_ox_B2_2, ap_ox_B6_11, ap_hv_ox, ap_ow6_ox, ap_ox_ow6, ap_hk10_ox, lo_ox⟩, by rw [show _ = _ from sv83.2.2.1, show _ = _ from sv54.2.2.1]; simp [intOf]; omega⟩
      · refine rx_av sv62 [(68, .int .i64 ((n : Nat))), (69, .bool true), (70, .bool true), (71, .slice wo n wc), (72, .int .i64 ((n : Nat))), (73, .int .i64 (((n - 1 : Nat) : Int))), (74, pk ((bO wo)) (oO wo + (n - 1) * 2)), (75, pk ((bO wo)) (oO wo + (n - 1) * 2 + 1)), (76, .int .i64 e.2), (77, .slice ao6 A.length cap6), (78, .int .i64 ((j : Int))), (79, pk ((bO ao6)) (oO ao6 + j * 1)), (80, .int .i64 x), (81, .bool true), (82, .bool true)]
          ⟨ym r5, ybc r6 (fun _ => rn_gtr (decide_eq_true (by omega))), ym r5, ox_move 10 71 (.inl rfl) rfl rfl (gy rfl rfl rfl) (fun _ _ h => h), ox_move 12 72 (.inl rfl) rfl rfl (gy rfl rfl rfl) (fun _ _ h => h), ox_bin rfl rfl (gy rfl rfl rfl) (oy rfl rfl) rfl (fun _ => rn_sub (by rw [wrap_i64 (by omega) (by omega)]; omega)) (fun _ => rfl), ox_index rfl rfl (gy rfl rfl rfl) (oy rfl rfl) (oy rfl rfl) (fun w => ix_sl Try.underlying51 (by kernel_rfl) ((Sl.of_own wt)) (by omega) (rfl) w) (fun _ => rfl), ox_index rfl rfl (gy rfl rfl rfl) (oy rfl rfl) rfl (fun w => ix_p1 _ _ w) (fun _ => rfl), ox_load rfl rfl (gy rfl rfl rfl) (oy rfl rfl) (fun _ g => loadsAt (tyInt64 e.2) (mid_range (A := [.int .i64 e.1]) (B := [.int .i64 e.2]) (C := []) (by rw [← hx_e]; exact el_range (Sl.of_own (wt.kn g)) pc_len (by omega) (by decide)) rfl)) (fun _ => rfl), ox_move 5 77 (.inl rfl) rfl rfl (gy rfl rfl rfl) (fun _ _ h => h), ox_move 11 78 (.inl rfl) rfl rfl (gy rfl rfl rfl) (fun _ _ h => h), ox_index rfl rfl (gy rfl rfl rfl) (oy rfl rfl) (oy rfl rfl) (fun w => ix_sl Try.underlying37 (by kernel_rfl) ((Sl.of_own ow6)) (by omega) (rfl) w) (fun _ => rfl), ox_load rfl rfl (gy rfl rfl rfl) (oy rfl rfl) (fun _ g => loadsAt (tyInt64 x) (by rw [← hx_x]; exact el_range (Sl.of_own (ow6.kn g)) ce_len (by omega) (by decide))) (fun _ => rfl), ox_bin rfl rfl (gy rfl rfl rfl) (oy rfl rfl) (oy rfl rfl) (fun _ => rn_eql (by rw [hex]; simp)) (fun _ => rfl), ox_pick rfl rfl trivial (oy rfl rfl) (oy rfl rfl) (fun _ => rfl), trivial⟩ fun a84 w84 g84 sv84 => ?_
        refine k63 _ _ ?_
        refine cx_ifT sv84 rfl rfl ?_
        replace HB2_2 := rw_kn g84 HB2_2
        replace HB6_11 := rw_kn g84 HB6_11
        replace hv := hv.kn g84
        replace ow6 := ow6.kn g84
        replace hk10 := hk10.kn g84
        replace wt := wt.kn g84
        replace HG := grown_trans HG g84
        refine rx_tail (sv84.st w84) (by kernel_rfl) 9 [(83, Sp.is (.slice wo n wc)), (84, Sp.is (.int .i64 ((n : Nat)))), (85, Sp.is (.int .i64 (((n - 1 : Nat) : Int)))), (86, Sp.is (pk ((bO wo)) (oO wo + (n - 1) * 2))), (87, Sp.is (pk ((bO wo)) (oO wo + (n - 1) * 2 + 1))), (88, Sp.is (.int .i64 e.2)), (89, Sp.is (.int .i64 ((x + 1)))), (90, Sp.is (pk ((bO wo)) (oO wo + (n - 1) * 2))), (91, Sp.is (pk ((bO wo)) (oO wo + (n - 1) * 2 + 1)))] rfl (by kernel_rfl) (by kernel_rfl) (by kernel_rfl) [] (by kernel_rfl)
          ⟨ym r5, ym r5, ybc r6 (fun _ => rn_sub (by rw [wrap_i64 (by omega) (by omega)]; omega)), ox_index rfl rfl trivial (oy rfl rfl) (oy rfl rfl) (fun w => ix_sl Try.underlying51 (by kernel_rfl) ((Sl.of_own wt)) (by omega) (rfl) w) (fun _ => rfl), ox_index rfl rfl trivial (oy rfl rfl) rfl (fun w => ix_p1 _ _ w) (fun _ => rfl), ox_load rfl rfl trivial (oy rfl rfl) (fun _ g => loadsAt (tyInt64 e.2) (mid_range (A := [.int .i64 e.1]) (B := [.int .i64 e.2]) (C := []) (by rw [← hx_e]; exact el_range (Sl.of_own (wt.kn g)) pc_len (by omega) (by decide)) rfl)) (fun _ => rfl), ybc r6 (fun _ => rn_add (by rw [hex, wrap_i64 (by omega) (by omega)])), ox_index rfl rfl trivial (oy rfl rfl) (oy rfl rfl) (fun w => ix_sl Try.underlying51 (by kernel_rfl) ((Sl.of_own wt)) (by omega) (rfl) w) (fun _ => rfl), ox_index rfl rfl trivial (oy rfl rfl) rfl (fun w => ix_p1 _ _ w) (fun _ => rfl), trivial⟩ trivial
          [] (by kernel_rfl) trivial ⟨.inl rfl, .inl rfl, .inl rfl, .inl rfl, .inl rfl, .inl rfl, .inl rfl, .inl rfl, .inl rfl, trivial⟩ (by kernel_rfl) fun a85 w85 g85 st85 nd85 => ?_
        obtain ⟨hn85, hd85, e85_83, e85_84, e85_85, e85_86, e85_87, e85_88, e85_89, e85_90, e85_91, e85_68, e85_69, e85_70, e85_71, e85_72, e85_73, e85_74, e85_75, e85_76, e85_77, e85_78, e85_79, e85_80, e85_81, e85_82, e85_12, e85_66, e85_67, e85_60, e85_61, e85_62, e85_63, e85_11, e85_10, e85_21, e85_22, e85_23, e85_24, e85_8, e85_7, e85_6, e85_5, e85_4, e85_2, e85_0, e85_1, e85_14, e85_19, e85_20, -⟩ := st85
        have sv85 : Sv 115 [] [(68, _), (69, _), (70, _), (71, _), (72, _), (73, _), (74, _), (75, _), (76, _), (77, _), (78, _), (79, _), (80, _), (81, _), (82, _), (12, _), (66, _), (67, _), (60, _), (61, _), (62, _), (63, _), (11, _), (10, _), (21, _), (22, _), (23, _), (24, _), (8, _), (7, _), (6, _), (5, _), (4, _), (2, _), (0, _), (1, _), (14, _), (19, _), (20, _), (89, _), (91, _)] a85 := ⟨hn85, hd85, e85_68, e85_69, e85_70, e85_71, e85_72, e85_73, e85_74, e85_75, e85_76, e85_77, e85_78, e85_79, e85_80, e85_81, e85_82, e85_12, e85_66, e85_67, e85_60, e85_61, e85_62, e85_63, e85_11, e85_10, e85_21, e85_22, e85_23, e85_24, e85_8, e85_7, e85_6, e85_5, e85_4, e85_2, e85_0, e85_1, e85_14, e85_19, e85_20, e85_89, e85_91, trivial⟩
        replace HB2_2 := rw_kn g85 HB2_2
        replace HB6_11 := rw_kn g85 HB6_11
        replace hv := hv.kn g85
        replace ow6 := ow6.kn g85
        replace hk10 := hk10.kn g85
        replace wt := wt.kn g85
        replace HG := grown_trans HG g85
        refine tl_storeE (c := pc) (el := (e.1, (x + 1))) (A := [.int .i64 e.1]) (B := [.int .i64 e.2]) (C := []) sv85 rfl rfl rfl rfl rfl rfl rfl (tyInt64 ((x + 1))) wt pc_len (by decide) ((by omega)) (by rw [hx_e]; rfl) rfl rfl rfl fun w86 g86 h86 => ?_
        replace HB2_2 := row_of g86 HB2_2 (fun e => ap_wt_B2_2 _ (row_fp (j := (n - 1)) wt (by omega) rfl) (Option.some.inj e).symm)
        replace HB6_11 := row_of g86 HB6_11 (fun e => ap_wt_B6_11 _ (row_fp (j := (n - 1)) wt (by omega) rfl) (Option.some.inj e).symm)
        replace hv := hv.offR g86 (fun k hk e => ap_hv_wt k hk (row_fp (j := (n - 1)) wt (by omega) e))
        replace ow6 := ow6.offR g86 (fun k hk e => ap_ow6_wt k hk (row_fp (j := (n - 1)) wt (by omega) e))
        replace hk10 := hk10.offR g86 (fun k hk e => ap_hk10_wt k hk (row_fp (j := (n - 1)) wt (by omega) e))
        replace HG := grown_from HG g86 fun k e => lo_wt k (row_fp (j := (n - 1)) wt (by omega) e)
        replace wt := h86
        refine tl_nil ?_
        refine y59 _ _ ?_
        refine k58 _ _ ?_
        refine wp_region_lit ?_
        refine sx_hv sv85 2 [(64, .int .i64 ((j : Int))), (65, .int .i64 (((j + 1 : Nat) : Int)))]
          ⟨ym r5, ybc r6 (fun _ => rn_add (by rw [wrap_i64 (by omega) (by omega)]; omega)), trivial⟩ fun a87 w87 g87 sv87 => ?_
        refine tl_as (v := .int .i64 (((j + 1 : Nat) : Int))) sv87 r6 fun a88 sv88 => ?_
        refine tl_nil ?_
        replace HB2_2 := rw_kn g87 HB2_2
        replace HB6_11 := rw_kn g87 HB6_11
        replace hv := hv.kn g87
        replace ow6 := ow6.kn g87
        replace hk10 := hk10.kn g87
        replace wt := wt.kn g87
        replace HG := grown_trans HG g87
        exact ⟨⟨j + 1, n, G.set (n - 1) (e.1, x + 1), wo, wc, by omega, by rw [List.length_set]; exact hGn, hGI.ext2 hGn hn0 hx_e (gd_is hx_x) hex, ⟨sv88.1, sv88.2.1, sv88.2.2.1, sv88.2.2.2.2.2.2.2.2.2.2.2.2.2.2.2.2.2.2.2.2.2.2.2.2.2.2.2.1, sv88.2.2.2.2.2.2.2.2.2.2.2.2.2.2.2.2.2.2.2.2.2.2.2.2.2.2.2.2.1, sv88.2.2.2.2.2.2.2.2.2.2.2.2.2.2.2.2.2.2.2.2.2.2.2.2.2.2.2.2.2.1, sv88.2.2.2.2.2.2.2.2.2.2.2.2.2.2.2.2.2.2.2.2.2.2.2.2.2.2.2.2.2.2.1, sv88.2.2.2.2.2.2.2.2.2.2.2.2.2.2.2.2.2.2.2.2.2.2.2.2.2.2.2.2.2.2.2.1, sv88.2.2.2.2.2.2.2.2.2.2.2.2.2.2.2.2.2.2.2.2.2.2.2.2.2.2.2.2.2.2.2.2.1, sv88.2.2.2.2.2.2.2.2.2.2.2.2.2.2.2.2.2.2.2.2.2.2.2.2.2.2.2.2.2.2.2.2.2.1, sv88.2.2.2.2.2.2.2.2.2.2.2.2.2.2.2.2.2.2.2.2.2.2.2.2.2.2.2.2.2.2.2.2.2.2.1, sv88.2.2.2.2.2.2.2.2.2.2.2.2.2.2.2.2.2.2.2.2.2.2.2.2.2.2.2.2.2.2.2.2.2.2.2.1, sv88.2.2.2.2.2.2.2.2.2.2.2.2.2.2.2.2.2.2.2.2.2.2.2.2.2.2.2.2.2.2.2.2.2.2.2.2.1, sv88.2.2.2.2.2.2.2.2.2.2.2.2.2.2.2.2.2.2.2.2.2.2.2.2.2.2.2.2.2.2.2.2.2.2.2.2.2.1, sv88.2.2.2.2.2.2.2.2.2.2.2.2.2.2.2.2.2.2.2.2.2.2.2.2.2.2.2.2.2.2.2.2.2.2.2.2.2.2.1, sv88.2.2.2.2.2.2.2.2.2.2.2.2.2.2.2.2.2.2.2.2.2.2.2.2.2.2.2.2.2.2.2.2.2.2.2.2.2.2.2.1, sv88.2.2.2.2.2.2.2.2.2.2.2.2.2.2.2.2.2.2.2.2.2.2.2.2.2.2.2.2.2.2.2.2.2.2.2.2.2.2.2.2.1, sv88.2.2.2.2.2.2.2.2.2.2.2.2.2.2.2.2.2.2.2.2.2.2.2.2.2.2.2.2.2.2.2.2.2.2.2.2.2.2.2.2.2.1, sv88.2.2.2.2.2.2.2.2.2.2.2.2.2.2.2.2.2.2.2.2.2.2.2.2.2.2.2.2.2.2.2.2.2.2.2.2.2.2.2.2.2.2.1, trivial⟩, HG, HB2_2, HB6_11, hv, ow6, hk10, wt, ap_wt_B2_2, ap_wt_B6_11, ap_hv_wt, ap_ow6_wt, ap_wt_ow6, ap_hk10_wt, lo_wt⟩, by rw [show _ = _ from sv88.2.2.1, show _ = _ from sv54.2.2.1]; simp [intOf]; omega⟩
      · have hno : n = 0 ∨ ∃ hj : n - 1 < G.length, (G[n - 1]'hj).2 ≠ x := .inr ⟨by omega, by rw [hx_e]; exact hex⟩
        refine rx_av sv62 [(68, .int .i64 ((n : Nat))), (69, .bool true), (70, .bool true), (71, .slice wo n wc), (72, .int .i64 ((n : Nat))), (73, .int .i64 (((n - 1 : Nat) : Int))), (74, pk ((bO wo)) (oO wo + (n - 1) * 2)), (75, pk ((bO wo)) (oO wo + (n - 1) * 2 + 1)), (76, .int .i64 e.2), (77, .slice ao6 A.length cap6), (78, .int .i64 ((j : Int))), (79, pk ((bO ao6)) (oO ao6 + j * 1)), (80, .int .i64 x), (81, .bool false), (82, .bool false)]
          ⟨ym r5, ybc r6 (fun _ => rn_gtr (decide_eq_true (by omega))), ym r5, ox_move 10 71 (.inl rfl) rfl rfl (gy rfl rfl rfl) (fun _ _ h => h), ox_move 12 72 (.inl rfl) rfl rfl (gy rfl rfl rfl) (fun _ _ h => h), ox_bin rfl rfl (gy rfl rfl rfl) (oy rfl rfl) rfl (fun _ => rn_sub (by rw [wrap_i64 (by omega) (by omega)]; omega)) (fun _ => rfl), ox_index rfl rfl (gy rfl rfl rfl) (oy rfl rfl) (oy rfl rfl) (fun w => ix_sl Try.underlying51 (by kernel_rfl) ((Sl.of_own wt)) (by omega) (rfl) w) (fun _ => rfl), ox_index rfl rfl (gy rfl rfl rfl) (oy rfl rfl) rfl (fun w => ix_p1 _ _ w) (fun _ => rfl), ox_load rfl rfl (gy rfl rfl rfl) (oy rfl rfl) (fun _ g => loadsAt (tyInt64 e.2) (mid_range (A := [.int .i64 e.1]) (B := [.int .i64 e.2]) (C := []) (by rw [← hx_e]; exact el_range (Sl.of_own (wt.kn g)) pc_len (by omega) (by decide)) rfl)) (fun _ => rfl), ox_move 5 77 (.inl rfl) rfl rfl (gy rfl rfl rfl) (fun _ _ h => h), ox_move 11 78 (.inl rfl) rfl rfl (gy rfl rfl rfl) (fun _ _ h => h), ox_index rfl rfl (gy rfl rfl rfl) (oy rfl rfl) (oy rfl rfl) (fun w => ix_sl Try.underlying37 (by kernel_rfl) ((Sl.of_own ow6)) (by omega) (rfl) w) (fun _ => rfl), ox_load rfl rfl (gy rfl rfl rfl) (oy rfl rfl) (fun _ g => loadsAt (tyInt64 x) (by rw [← hx_x]; exact el_range (Sl.of_own (ow6.kn g)) ce_len (by omega) (by decide))) (fun _ => rfl), ox_bin rfl rfl (gy rfl rfl rfl) (oy rfl rfl) (oy rfl rfl) (fun _ => rn_eql (by simpa using hex)) (fun _ => rfl), ox_pick rfl rfl trivial (oy rfl rfl) (oy rfl rfl) (fun _ => rfl), trivial⟩ fun a89 w89 g89 sv89 => ?_
        refine k63 _ _ ?_
        refine cx_ifF sv89 rfl rfl ?_
        replace HB2_2 := rw_kn g89 HB2_2
        replace HB6_11 := rw_kn g89 HB6_11
        replace hv := hv.kn g89
        replace ow6 := ow6.kn g89
        replace hk10 := hk10.kn g89
        replace wt := wt.kn g89
        replace HG := grown_trans HG g89
        have gd90 := grown_drew w89
        replace HB2_2 := rw_kn gd90 HB2_2
        replace HB6_11 := rw_kn gd90 HB6_11
        replace hv := hv.kn gd90
        replace ow6 := ow6.kn gd90
        replace hk10 := hk10.kn gd90
        replace wt := wt.kn gd90
        replace HG := grown_trans HG gd90
        refine wp_region_noPanic ?_
        refine region_script (fun w' => w'.rangeAt (bO ao6) (oO ao6 + j * 1) ([.int .i64 x]) ∧ True) [0, 1, 2, 3, 4, 5, 6, 7, 8, 9] [10, 11, 12, 13] (by kernel_rfl) (by kernel_rfl) (fun _ _ d _ _ h => by cases d <;> exact h) rfl (by kernel_rfl) ⟨(by rw [← hx_x]; exact el_range (Sl.of_own ow6) ce_len (by omega) (by decide)), trivial⟩ ?_
        simp only [List.filterMap_cons, List.filterMap_nil, List.getElem?_toArray, List.getElem?_cons_succ, List.getElem?_cons_zero]
        refine tk_px (v := .slice wo n wc) w89.drew sv89 rfl (by kernel_rfl) (px_move 10 92 (.inl rfl) rfl rfl trivial (fun _ _ h => h)) fun a91 sv91 => ?_
        refine tk_px (v := .slice ao6 A.length cap6) w89.drew sv91 rfl (by kernel_rfl) (px_move 5 93 (.inl rfl) rfl rfl trivial (fun _ _ h => h)) fun a92 sv92 => ?_
        refine tk_px (v := .int .i64 ((j : Int))) w89.drew sv92 rfl (by kernel_rfl) (px_move 11 94 (.inl rfl) rfl rfl trivial (fun _ _ h => h)) fun a93 sv93 => ?_
        refine tk_px (v := pk ((bO ao6)) (oO ao6 + j * 1)) w89.drew sv93 rfl (by kernel_rfl) (px_index rfl rfl trivial (oy rfl rfl) (oy rfl rfl) (fun w => ix_sl Try.underlying37 (by kernel_rfl) ((Sl.of_own ow6)) (by omega) (rfl) w) (fun _ => rfl)) fun a94 sv94 => ?_
        refine tk_load sv94 rfl rfl rfl rfl ⟨rfl, rfl⟩ (fun w hS => loadsAt (tyInt64 x) hS.1) fun a95 sv95 => ?_
        refine tk_px (v := .slice ao6 A.length cap6) w89.drew sv95 rfl (by kernel_rfl) (px_move 5 97 (.inl rfl) rfl rfl trivial (fun _ _ h => h)) fun a96 sv96 => ?_
        refine tk_px (v := .int .i64 ((j : Int))) w89.drew sv96 rfl (by kernel_rfl) (px_move 11 98 (.inl rfl) rfl rfl trivial (fun _ _ h => h)) fun a97 sv97 => ?_
        refine tk_px (v := pk ((bO ao6)) (oO ao6 + j * 1)) w89.drew sv97 rfl (by kernel_rfl) (px_index rfl rfl trivial (oy rfl rfl) (oy rfl rfl) (fun w => ix_sl Try.underlying37 (by kernel_rfl) ((Sl.of_own ow6)) (by omega) (rfl) w) (fun _ => rfl)) fun a98 sv98 => ?_
        refine tk_load sv98 rfl rfl rfl rfl ⟨rfl, rfl⟩ (fun w hS => loadsAt (tyInt64 x) hS.1) fun a99 sv99 => ?_
        refine tk_px (v := .int .i64 ((x + 1))) w89.drew sv99 rfl (by kernel_rfl) (px_bin rfl rfl trivial (oy rfl rfl) rfl (fun _ => rn_add (by rw [wrap_i64 (by omega) (by omega)])) (fun _ => rfl)) fun a100 sv100 => ?_
        have sv101 : Sv 115 [] [(101, _), (96, _), (92, _), (68, _), (69, _), (70, _), (71, _), (72, _), (73, _), (74, _), (75, _), (76, _), (77, _), (78, _), (79, _), (80, _), (81, _), (82, _), (12, _), (66, _), (67, _), (60, _), (61, _), (62, _), (63, _), (11, _), (10, _), (21, _), (22, _), (23, _), (24, _), (8, _), (7, _), (6, _), (5, _), (4, _), (2, _), (0, _), (1, _), (14, _), (19, _), (20, _)] a100 := sv100.dl [100, 99, 98, 97, 95, 94, 93]
        change wpList _ _ _ _ _ _
        refine sx_hv sv101 1 [(102, .agg #[.int .i64 x, .int .i64 ((x + 1))])]
          ⟨ox_build (vs := [.int .i64 x, .int .i64 ((x + 1))]) rfl rfl trivial ⟨(oy rfl rfl), (oy rfl rfl), trivial⟩ (fun _ => bI2' x (x + 1) _) (fun _ => rfl), trivial⟩ fun a102 w102 g102 sv102 => ?_
        replace HB2_2 := rw_kn g102 HB2_2
        replace HB6_11 := rw_kn g102 HB6_11
        replace hv := hv.kn g102
        replace ow6 := ow6.kn g102
        replace hk10 := hk10.kn g102
        replace wt := wt.kn g102
        replace HG := grown_trans HG g102
        refine tl_nil ⟨⟨(by rw [← hx_x]; exact el_range (Sl.of_own ow6) ce_len (by omega) (by decide)), trivial⟩, ?_⟩
        change wpList _ _ _ _ _ _
        refine tl_lit (e := 52) (u := .agg #[.int .i64 x, .int .i64 ((x + 1))]) sv102 r6 (bSg x (x + 1)) fun a103 w103 V eq_V g103 HV sv103 => ?_
        have ne_V_B2_2 := nb_ne HB2_2 eq_V
        have ne_V_B6_11 := nb_ne HB6_11 eq_V
        have lo_V := nb_lo HG eq_V
        have ap_hv_V := nb_ap (hv.lt) eq_V
        have ap_ow6_V := nb_ap (Own.ltS ow6) eq_V
        have ap_hk10_V := nb_ap (hk10.lt) eq_V
        have ap_wt_V := nb_ap (Own.ltS wt) eq_V
        replace HB2_2 := rw_kn g103 HB2_2
        replace HB6_11 := rw_kn g103 HB6_11
        replace hv := hv.kn g103
        replace ow6 := ow6.kn g103
        replace hk10 := hk10.kn g103
        replace wt := wt.kn g103
        replace HG := grown_trans HG g103
        refine tl_nil ⟨⟨(by rw [← hx_x]; exact el_range (Sl.of_own ow6) ce_len (by omega) (by decide)), trivial⟩, ?_⟩
        change wpList _ _ _ _ _ _
        refine tl_app gapsT sv103 rfl rfl rfl rfl rfl rfl rfl rfl wt (sl_pc HV) rfl (by omega) fun a104 aoX capX w104 ox stp sv104 => ?_
        have ap_ox_B2_2 : ∀ k, fpS (.slice aoX (n + 1) capX) k → k ≠ B2_2 := fun k hk => (stp.2 k hk).elim (ap_wt_B2_2 k) (fun h => nh_ne HB2_2 h)
        have ap_ox_B6_11 : ∀ k, fpS (.slice aoX (n + 1) capX) k → k ≠ B6_11 := fun k hk => (stp.2 k hk).elim (ap_wt_B6_11 k) (fun h => nh_ne HB6_11 h)
        have ap_hv_ox : ∀ k, fpS (.slice ao l.length cap) k → ¬ fpS (.slice aoX (n + 1) capX) k := fun k hk hx => (stp.2 k hx).elim (ap_hv_wt k hk) (fun h => absurd (hv.lt k hk) (Nat.not_lt.2 h))
        have ap_ow6_ox : ∀ k, fpS (.slice ao6 A.length cap6) k → ¬ fpS (.slice aoX (n + 1) capX) k := fun k hk hx => (stp.2 k hx).elim (ap_ow6_wt k hk) (fun h => absurd (Own.ltS ow6 k hk) (Nat.not_lt.2 h))
        have ap_ox_ow6 : ∀ k, fpS (.slice aoX (n + 1) capX) k → ¬ fpS (.slice ao6 A.length cap6) k := fun k hk hx => ap_ow6_ox k hx hk
        have ap_hk10_ox : ∀ k, fpT (.slice ao10 T.length cap10) k → ¬ fpS (.slice aoX (n + 1) capX) k := fun k hk hx => (stp.2 k hx).elim (ap_hk10_wt k hk) (fun h => absurd (hk10.lt k hk) (Nat.not_lt.2 h))
        have lo_ox : ∀ k, fpS (.slice aoX (n + 1) capX) k → w.heap.size ≤ k := fun k hk => (stp.2 k hk).elim (lo_wt k) (fun h => Nat.le_trans HG.size h)
        replace HB2_2 := row_of stp.1 HB2_2 (fun e => ap_wt_B2_2 _ e.symm rfl)
        replace HB6_11 := row_of stp.1 HB6_11 (fun e => ap_wt_B6_11 _ e.symm rfl)
        replace hv := hv.offR stp.1 (fun k hk e => ap_hv_wt k hk (e))
        replace ow6 := ow6.offR stp.1 (fun k hk e => ap_ow6_wt k hk (e))
        replace hk10 := hk10.offR stp.1 (fun k hk e => ap_hk10_wt k hk (e))
        replace HG := grown_from HG stp.1 fun k e => lo_wt k (e)
        rw [pc_snoc] at ox
        refine tl_nil ⟨⟨(by rw [← hx_x]; exact el_range (Sl.of_own ow6) ce_len (by omega) (by decide)), trivial⟩, ?_⟩
        change wpList _ _ _ _ _ _
        refine tl_as (v := .slice aoX (n + 1) capX) sv104 r6 fun a105 sv105 => ?_
        refine tl_nil ⟨⟨(by rw [← hx_x]; exact el_range (Sl.of_own ow6) ce_len (by omega) (by decide)), trivial⟩, ?_⟩
        refine NoPanic.normal ?_
        have sv106 : Sv 115 [] [(10, _), (68, _), (69, _), (70, _), (71, _), (72, _), (73, _), (74, _), (75, _), (76, _), (77, _), (78, _), (79, _), (80, _), (81, _), (82, _), (12, _), (66, _), (67, _), (60, _), (61, _), (62, _), (63, _), (11, _), (21, _), (22, _), (23, _), (24, _), (8, _), (7, _), (6, _), (5, _), (4, _), (2, _), (0, _), (1, _), (14, _), (19, _), (20, _)] a105 := sv105.dl [104, 103, 102, 101, 96, 92]
        refine y59 _ _ ?_
        refine k58 _ _ ?_
        refine wp_region_lit ?_
        refine sx_hv sv106 2 [(64, .int .i64 ((j : Int))), (65, .int .i64 (((j + 1 : Nat) : Int)))]
          ⟨ym r5, ybc r6 (fun _ => rn_add (by rw [wrap_i64 (by omega) (by omega)]; omega)), trivial⟩ fun a107 w107 g107 sv107 => ?_
        refine tl_as (v := .int .i64 (((j + 1 : Nat) : Int))) sv107 r6 fun a108 sv108 => ?_
        refine tl_nil ?_
        replace HB2_2 := rw_kn g107 HB2_2
        replace HB6_11 := rw_kn g107 HB6_11
        replace hv := hv.kn g107
        replace ow6 := ow6.kn g107
        replace hk10 := hk10.kn g107
        replace ox := ox.kn g107
        replace HG := grown_trans HG g107
        exact ⟨⟨j + 1, n + 1, G ++ [(x, x + 1)], aoX, capX, by omega, by simp [hGn], hGI.app2 (fun p q h1 h2 => hS9 p q h1 (by omega)) (gd_is hx_x) hGn hno, ⟨sv108.1, sv108.2.1, sv108.2.2.1, sv108.2.2.2.2.2.1, sv108.2.2.2.2.2.2.2.2.2.2.2.2.2.2.2.2.2.2.2.2.2.2.2.2.2.2.2.2.1, sv108.2.2.2.2.2.2.2.2.2.2.2.2.2.2.2.2.2.2.2.2.2.2.2.2.2.2.2.2.2.1, sv108.2.2.2.2.2.2.2.2.2.2.2.2.2.2.2.2.2.2.2.2.2.2.2.2.2.2.2.2.2.2.1, sv108.2.2.2.2.2.2.2.2.2.2.2.2.2.2.2.2.2.2.2.2.2.2.2.2.2.2.2.2.2.2.2.1, sv108.2.2.2.2.2.2.2.2.2.2.2.2.2.2.2.2.2.2.2.2.2.2.2.2.2.2.2.2.2.2.2.2.1, sv108.2.2.2.2.2.2.2.2.2.2.2.2.2.2.2.2.2.2.2.2.2.2.2.2.2.2.2.2.2.2.2.2.2.1, sv108.2.2.2.2.2.2.2.2.2.2.2.2.2.2.2.2.2.2.2.2.2.2.2.2.2.2.2.2.2.2.2.2.2.2.1, sv108.2.2.2.2.2.2.2.2.2.2.2.2.2.2.2.2.2.2.2.2.2.2.2.2.2.2.2.2.2.2.2.2.2.2.2.1, sv108.2.2.2.2.2.2.2.2.2.2.2.2.2.2.2.2.2.2.2.2.2.2.2.2.2.2.2.2.2.2.2.2.2.2.2.2.1, sv108.2.2.2.2.2.2.2.2.2.2.2.2.2.2.2.2.2.2.2.2.2.2.2.2.2.2.2.2.2.2.2.2.2.2.2.2.2.1, sv108.2.2.2.2.2.2.2.2.2.2.2.2.2.2.2.2.2.2.2.2.2.2.2.2.2.2.2.2.2.2.2.2.2.2.2.2.2.2.1, sv108.2.2.2.2.2.2.2.2.2.2.2.2.2.2.2.2.2.2.2.2.2.2.2.2.2.2.2.2.2.2.2.2.2.2.2.2.2.2.2.1, sv108.2.2.2.2.2.2.2.2.2.2.2.2.2.2.2.2.2.2.2.2.2.2.2.2.2.2.2.2.2.2.2.2.2.2.2.2.2.2.2.2.1, sv108.2.2.2.2.2.2.2.2.2.2.2.2.2.2.2.2.2.2.2.2.2.2.2.2.2.2.2.2.2.2.2.2.2.2.2.2.2.2.2.2.2.1, sv108.2.2.2.2.2.2.2.2.2.2.2.2.2.2.2.2.2.2.2.2.2.2.2.2.2.2.2.2.2.2.2.2.2.2.2.2.2.2.2.2.2.2.1, trivial⟩, HG, HB2_2, HB6_11, hv, ow6, hk10, ox, ap_ox_B2_2, ap_ox_B6_11, ap_hv_ox, ap_ow6_ox, ap_ox_ow6, ap_hk10_ox, lo_ox⟩, by rw [show _ = _ from sv108.2.2.1, show _ = _ from sv54.2.2.1]; simp [intOf]; omega⟩
    · have hGT : G = gaps T := hGI.gaps hT (by omega) hAA hp (by omega)
      refine wp_region_lit ?_
      refine sx_hv sv54 4 [(60, .int .i64 ((j : Int))), (61, .slice ao6 A.length cap6), (62, .int .i64 ((A.length : Nat))), (63, .bool false)]
        ⟨ym r5, ym r5, ox_len (Try.underlying37) rfl rfl trivial (oy rfl rfl) (fun _ => rfl), ybt r7 (fun _ => rn_lss (decide_eq_false (by omega))), trivial⟩ fun a109 w109 g109 sv109 => ?_
      refine tl_nil ?_
      refine k56 _ _ ?_
      refine cx_ifF sv109 rfl rfl ?_
      refine wp_exit ?_
      repeat refine then_exit ?_
      refine x53 _ _ ?_
      refine k50 _ _ ?_
      refine wp_seq_k fun K110 k110 => ?_
      refine wp_region_lit ?_
      replace HB2_2 := rw_kn g109 HB2_2
      replace HB6_11 := rw_kn g109 HB6_11
      replace hv := hv.kn g109
      replace ow6 := ow6.kn g109
      replace hk10 := hk10.kn g109
      replace wt := wt.kn g109
      replace HG := grown_trans HG g109
      refine sx_head (sv109.st w109) 10 [(105, Sp.is (.bool true)), (106, Sp.is (.bool true)), (107, Sp.is (.agg #[.slice ao10 T.length cap10])), (108, Sp.gp (gaps T)), (109, Sp.is (.slice wo n wc)), (110, Sp.is (.bool true)), (111, Sp.is (.bool true)), (112, Sp.is (.bool true)), (113, Sp.is (.bool true)), (114, Sp.is (.bool true))] rfl (by kernel_rfl) (by kernel_rfl) (by kernel_rfl)
        ⟨ym r5, ym r5, ox_load rfl rfl (gy rfl rfl rfl) (oy rfl rfl) (fun _ g => loadsAt (tyT (.slice ao10 T.length cap10) rfl) (rangeAt_row (row_of g HB6_11 (by simp)))) (fun _ => rfl), ox_call (Sp.gp (gaps T)) [.agg #[.slice ao10 T.length cap10]] rfl rfl (gy rfl rfl rfl) ⟨(oy rfl rfl), trivial⟩ (gaps_on hk10.1) (fun _ _ h => h) (enter_of Try.func32 (by kernel_rfl) rfl), ox_move 10 109 (.inl rfl) rfl rfl (gy rfl rfl rfl) (fun _ _ h => h), ox_callY (Sp.is (.bool true)) rfl rfl (gy rfl rfl rfl) rfl (fun W g av h => match av, h with | [v1, v2], ⟨h1, h2, _⟩ => (sameGaps_walk h1 (by subst hGT; obtain rfl : v2 = _ := h2; exact (show Sl W 2 (.slice wo n wc) (gaps T).length (gcells (gaps T)) by rw [hGn]; exact Sl.of_own (wt.kn g))) gaps_bound (gaps_len T)).mono fun e W' ⟨h3, h4⟩ => ⟨_, h3, h4, rfl⟩) (fun _ _ h => h) (enter_of Try.func31 (by kernel_rfl) rfl), ox_pick rfl rfl trivial (oy rfl rfl) (oy rfl rfl) (fun _ => rfl), ym r5, ox_call (Sp.is (.bool true)) [] rfl rfl (gy rfl rfl rfl) trivial (is_on fun W g => awake_walk W) (fun _ _ h => h) (enter_of Try.func19 (by kernel_rfl) rfl), ox_pick rfl rfl trivial (oy rfl rfl) (oy rfl rfl) (fun _ => rfl), trivial⟩ fun a111 w111 g111 st111 => ?_
      obtain ⟨hn111, hd111, e111_105, e111_106, e111_107, e111_108, e111_109, e111_110, e111_111, e111_112, e111_113, e111_114, e111_60, e111_61, e111_62, e111_63, e111_11, e111_10, e111_21, e111_22, e111_23, e111_24, e111_8, e111_7, e111_6, e111_5, e111_4, e111_2, e111_0, e111_1, e111_14, e111_19, e111_20, -⟩ := st111
      have sv111 : Sv 115 [] [(60, _), (61, _), (62, _), (63, _), (11, _), (10, _), (21, _), (22, _), (23, _), (24, _), (8, _), (7, _), (6, _), (5, _), (4, _), (2, _), (0, _), (1, _), (14, _), (19, _), (20, _), (114, _)] a111 := ⟨hn111, hd111, e111_60, e111_61, e111_62, e111_63, e111_11, e111_10, e111_21, e111_22, e111_23, e111_24, e111_8, e111_7, e111_6, e111_5, e111_4, e111_2, e111_0, e111_1, e111_14, e111_19, e111_20, e111_114, trivial⟩
      refine tl_as (v := .bool true) sv111 r6 fun a112 sv112 => ?_
      refine tl_nil ?_
      refine k110 _ _ ?_
      replace HB2_2 := rw_kn g111 HB2_2
      replace HB6_11 := rw_kn g111 HB6_11
      replace hv := hv.kn g111
      replace ow6 := ow6.kn g111
      replace hk10 := hk10.kn g111
      replace wt := wt.kn g111
      replace HG := grown_trans HG g111
      refine wp_ret ?_
      repeat refine then_ret ?_
      refine cx_ret (fn := Try.f9) sv112 (res_tmp (p := 4) Try.results9 sv112 rfl rfl) ?_
      exact ⟨rfl, HG⟩
theorem lgaps_all (k : List Nat) (hk : Dg k) (l : List Int) (v : Value) (w : World) (hv : SlB w 1 v l.length (ic l)) :
    Calls Try.prog 9 #[dval k, v] w fun e w' => e = .returned (.bool true) ∧ w.grownBy w' none := by
  obtain ⟨ao, cap, rfl, _⟩ := hv.1.shape
  exact lgaps_walk k hk l ao cap w hv
end Go.Proofs.Yteakoleceoclkaa
