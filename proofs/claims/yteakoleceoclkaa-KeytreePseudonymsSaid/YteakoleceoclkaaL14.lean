/- Key trees: the law KeytreePseudonyms. (printed by gen_l14.py) -/
import Derived.Test.YteakoleceoclkaaKC
import Derived.Test.YteakoleceoclkaaPV
namespace Go.Proofs.Yteakoleceoclkaa
open Go.RowKit Go.Shelf
set_option linter.unusedSimpArgs false
set_option linter.unusedVariables false
set_option maxRecDepth 100000 in
set_option maxHeartbeats 4000000 in
theorem pseuds_walk (seed : List Nat) (hse : Dg seed) (x : Idf) (o : List Nat) (ho : Dg o) (w : World) :
   Calls Try.prog 14 #[dval seed, valIdf x, dval o] w fun e w' => e = .returned (.bool true) ∧ w.grownBy w' none := by
 obtain ⟨s0, hs0⟩ : ∃ x, kd 273 seed = x := ⟨_, rfl⟩
 have hs0d : Dg s0 := hs0 ▸ kd_dg _ _
 obtain ⟨p0, hp0⟩ : ∃ x, kd 274 seed = x := ⟨_, rfl⟩
 have hp0d : Dg p0 := hp0 ▸ kd_dg _ _
 obtain ⟨T, hT⟩ : ∃ T, tree (kd 275 p0) [] = T := ⟨_, rfl⟩
 refine cx_enter Try.func14 rfl Try.ntmps14 rfl fun a0 sv0 => ?_
 have HG := World.grownBy.refl w none
 replace sv0 : Sv 56 [] [(0, dval seed), (1, valIdf x), (2, dval o)] a0 := sv0
 refine wp_seq_k fun K1 k1 => ?_
 refine wp_region_lit ?_
 refine tl_box sv0 rfl rfl rfl rfl rfl rfl (tyD seed hse.1) fun a2 w2 B3_2 eq_B3_2 g2 z2 HB3_2 sv2 => ?_
 have lo_B3_2 := nb_lo HG eq_B3_2
 replace HG := grown_trans HG g2
 refine tl_box sv2 rfl rfl rfl rfl rfl rfl (tyIdf x) fun a3 w3 B4_3 eq_B4_3 g3 z3 HB4_3 sv3 => ?_
 have ne_B4_3_B3_2 := nb_ne HB3_2 eq_B4_3
 have lo_B4_3 := nb_lo HG eq_B4_3
 replace HB3_2 := rw_kn g3 HB3_2
 replace HG := grown_trans HG g3
 refine tl_box sv3 rfl rfl rfl rfl rfl rfl (tyD o ho.1) fun a4 w4 B5_4 eq_B5_4 g4 z4 HB5_4 sv4 => ?_
 have ne_B5_4_B3_2 := nb_ne HB3_2 eq_B5_4
 have ne_B5_4_B4_3 := nb_ne HB4_3 eq_B5_4
 have lo_B5_4 := nb_lo HG eq_B5_4
 replace HB3_2 := rw_kn g4 HB3_2
 replace HB4_3 := rw_kn g4 HB4_3
 replace HG := grown_trans HG g4
 refine tl_as (v := .bool false) sv4 r6 fun a5 sv5 => ?_
 refine tl_nil ?_
 refine k1 _ _ ?_
 refine wp_seq_k fun K6 k6 => ?_
 refine wp_seq_k fun K7 k7 => ?_
 rcases (show 100 < x.ns.size ∨ (¬ 100 < x.ns.size ∧ 100 < x.val.text.size) ∨ (¬ 100 < x.ns.size ∧ ¬ 100 < x.val.text.size) by omega) with h1 | ⟨h1, h2⟩ | ⟨h1, h2⟩
 · refine wp_region_lit ?_
   refine sx_hv sv5 11 [(12, pt B4_3), (13, .string x.ns), (14, .int .i64 ((x.ns.size : Nat))), (15, .bool true), (16, .bool true), (17, undef), (18, undef), (19, undef), (20, undef), (21, undef), (22, .bool true)]
     ⟨yf r6 (fun _ => by kernel_rfl), yp (i := 0) r6 (tyStr x.ns) HB4_3 rfl rfl, ox_lenS (Try.underlying9) rfl rfl trivial (oy rfl rfl) (fun _ => rfl), ybc r6 (fun _ => rn_gtr (decide_eq_true (by omega))), ym r5, ox_off (gn rfl rfl rfl) rfl (fun _ => rfl), ox_off (gn rfl rfl rfl) rfl (fun _ => rfl), ox_off (gn rfl rfl rfl) rfl (fun _ => rfl), ox_off (gn rfl rfl rfl) rfl (fun _ => rfl), ox_off (gn rfl rfl rfl) rfl (fun _ => rfl), ox_pick rfl rfl trivial (oy rfl rfl) rfl (fun _ => rfl), trivial⟩ fun a8 w8 g8 sv8 => ?_
   refine tl_nil ?_
   refine k7 _ _ ?_
   refine cx_ifT sv8 rfl rfl ?_
   refine wp_seq_k fun K9 k9 => ?_
   refine wp_region_lit ?_
   replace HB3_2 := rw_kn g8 HB3_2
   replace HB4_3 := rw_kn g8 HB4_3
   replace HB5_4 := rw_kn g8 HB5_4
   replace HG := grown_trans HG g8
   refine sx_hv sv8 1 [(23, .bool true)]
     ⟨ox_call (Sp.is (.bool true)) [] rfl rfl trivial trivial (is_on fun W g => awake_walk W) (fun _ _ h => h) (enter_of Try.func19 (by kernel_rfl) rfl), trivial⟩ fun a10 w10 g10 sv10 => ?_
   refine tl_as (v := .bool true) sv10 r6 fun a11 sv11 => ?_
   refine tl_nil ?_
   refine k9 _ _ ?_
   replace HB3_2 := rw_kn g10 HB3_2
   replace HB4_3 := rw_kn g10 HB4_3
   replace HB5_4 := rw_kn g10 HB5_4
   replace HG := grown_trans HG g10
   refine wp_ret ?_
   repeat refine then_ret ?_
   refine cx_ret (fn := Try.f14) sv11 (res_tmp (p := 6) Try.results14 sv11 rfl rfl) ?_
   exact ⟨rfl, HG⟩
 · refine wp_region_lit ?_
   refine sx_hv sv5 11 [(12, pt B4_3), (13, .string x.ns), (14, .int .i64 ((x.ns.size : Nat))), (15, .bool false), (16, .bool false), (17, pk B4_3 1), (18, pk B4_3 3), (19, .string x.val.text), (20, .int .i64 ((x.val.text.size : Nat))), (21, .bool true), (22, .bool true)]
     ⟨yf r6 (fun _ => by kernel_rfl), yp (i := 0) r6 (tyStr x.ns) HB4_3 rfl rfl, ox_lenS (Try.underlying9) rfl rfl trivial (oy rfl rfl) (fun _ => rfl), ybc r6 (fun _ => rn_gtr (decide_eq_false (by omega))), ym r5, ox_field rfl rfl (gy rfl rfl rfl) (oy rfl rfl) (fun _ => by kernel_rfl) (fun _ => rfl), ox_field rfl rfl (gy rfl rfl rfl) (oy rfl rfl) (fun _ => by kernel_rfl) (fun _ => rfl), ox_load rfl rfl (gy rfl rfl rfl) (oy rfl rfl) (fun _ g => loadsAt (tyStr x.val.text) (range_part (L := [[.string x.ns], [.int .i64 x.val.kind], [.int .i64 x.val.int], [.string x.val.text]]) (i := 3) (row_of g HB4_3 (by simp)) rfl rfl)) (fun _ => rfl), ox_lenS (Try.underlying9) rfl rfl (gy rfl rfl rfl) (oy rfl rfl) (fun _ => rfl), ox_bin rfl rfl (gy rfl rfl rfl) (oy rfl rfl) rfl (fun _ => rn_gtr (decide_eq_true (by omega))) (fun _ => rfl), ox_pick rfl rfl trivial (oy rfl rfl) (oy rfl rfl) (fun _ => rfl), trivial⟩ fun a12 w12 g12 sv12 => ?_
   refine tl_nil ?_
   refine k7 _ _ ?_
   refine cx_ifT sv12 rfl rfl ?_
   refine wp_seq_k fun K13 k13 => ?_
   refine wp_region_lit ?_
   replace HB3_2 := rw_kn g12 HB3_2
   replace HB4_3 := rw_kn g12 HB4_3
   replace HB5_4 := rw_kn g12 HB5_4
   replace HG := grown_trans HG g12
   refine sx_hv sv12 1 [(23, .bool true)]
     ⟨ox_call (Sp.is (.bool true)) [] rfl rfl trivial trivial (is_on fun W g => awake_walk W) (fun _ _ h => h) (enter_of Try.func19 (by kernel_rfl) rfl), trivial⟩ fun a14 w14 g14 sv14 => ?_
   refine tl_as (v := .bool true) sv14 r6 fun a15 sv15 => ?_
   refine tl_nil ?_
   refine k13 _ _ ?_
   replace HB3_2 := rw_kn g14 HB3_2
   replace HB4_3 := rw_kn g14 HB4_3
   replace HB5_4 := rw_kn g14 HB5_4
   replace HG := grown_trans HG g14
   refine wp_ret ?_
   repeat refine then_ret ?_
   refine cx_ret (fn := Try.f14) sv15 (res_tmp (p := 6) Try.results14 sv15 rfl rfl) ?_
   exact ⟨rfl, HG⟩
 · have hx : x.ns.size ≤ 1000000 := by omega
   refine wp_region_lit ?_
   refine sx_hv sv5 11 [(12, pt B4_3), (13, .string x.ns), (14, .int .i64 ((x.ns.size : Nat))), (15, .bool false), (16, .bool false), (17, pk B4_3 1), (18, pk B4_3 3), (19, .string x.val.text), (20, .int .i64 ((x.val.text.size : Nat))), (21, .bool false), (22, .bool false)]
     ⟨yf r6 (fun _ => by kernel_rfl), yp (i := 0) r6 (tyStr x.ns) HB4_3 rfl rfl, ox_lenS (Try.underlying9) rfl rfl trivial (oy rfl rfl) (fun _ => rfl), ybc r6 (fun _ => rn_gtr (decide_eq_false (by omega))), ym r5, ox_field rfl rfl (gy rfl rfl rfl) (oy rfl rfl) (fun _ => by kernel_rfl) (fun _ => rfl), ox_field rfl rfl (gy rfl rfl rfl) (oy rfl rfl) (fun _ => by kernel_rfl) (fun _ => rfl), ox_load rfl rfl (gy rfl rfl rfl) (oy rfl rfl) (fun _ g => loadsAt (tyStr x.val.text) (range_part (L := [[.string x.ns], [.int .i64 x.val.kind], [.int .i64 x.val.int], [.string x.val.text]]) (i := 3) (row_of g HB4_3 (by simp)) rfl rfl)) (fun _ => rfl), ox_lenS (Try.underlying9) rfl rfl (gy rfl rfl rfl) (oy rfl rfl) (fun _ => rfl), ox_bin rfl rfl (gy rfl rfl rfl) (oy rfl rfl) rfl (fun _ => rn_gtr (decide_eq_false (by omega))) (fun _ => rfl), ox_pick rfl rfl trivial (oy rfl rfl) (oy rfl rfl) (fun _ => rfl), trivial⟩ fun a16 w16 g16 sv16 => ?_
   refine tl_nil ?_
   refine k7 _ _ ?_
   refine cx_ifF sv16 rfl rfl ?_
   refine wp_skip ?_
   refine k6 _ _ ?_
   refine wp_seq_k fun K17 k17 => ?_
   refine wp_region_lit ?_
   replace HB3_2 := rw_kn g16 HB3_2
   replace HB4_3 := rw_kn g16 HB4_3
   replace HB5_4 := rw_kn g16 HB5_4
   replace HG := grown_trans HG g16
   refine sx_hv sv16 2 [(24, dval seed), (25, vval s0 p0 (.slice none 0 0))]
     ⟨yl r6 (tyD seed hse.1) HB3_2, ox_call (Sp.is (vval s0 p0 (.slice none 0 0))) [dval seed] rfl rfl trivial ⟨(oy rfl rfl), trivial⟩ (is_on fun W g => by rw [← hs0, ← hp0]; exact newv_walk seed hse W) (fun _ _ h => h) (enter_of Try.func35 (by kernel_rfl) rfl), trivial⟩ fun a18 w18 g18 sv18 => ?_
   replace HB3_2 := rw_kn g18 HB3_2
   replace HB4_3 := rw_kn g18 HB4_3
   replace HB5_4 := rw_kn g18 HB5_4
   replace HG := grown_trans HG g18
   refine tl_alloc (T := 58) (Z := ([bv zero32, bv zero32, [.slice none 0 0]].flatten)) sv18 rfl rfl rfl (fun a w => by kernel_rfl) fun a19 w19 B7_19 eq_B7_19 g19 z19 HB7_19 sv19 => ?_
   have ne_B7_19_B3_2 := nb_ne HB3_2 eq_B7_19
   have ne_B7_19_B4_3 := nb_ne HB4_3 eq_B7_19
   have ne_B7_19_B5_4 := nb_ne HB5_4 eq_B7_19
   have lo_B7_19 := nb_lo HG eq_B7_19
   replace HB3_2 := rw_kn g19 HB3_2
   replace HB4_3 := rw_kn g19 HB4_3
   replace HB5_4 := rw_kn g19 HB5_4
   replace HG := grown_trans HG g19
   refine tl_sw sv19 r7 (tyVa hs0d hp0d (.slice none 0 0) rfl) HB7_19 (by first | rfl | simp [kcells, bv_length, zero32_len, hs0d.1, hp0d.1]) fun w20 g20 h20 => ?_
   replace HB3_2 := rw_st g20 HB3_2 (Ne.symm ne_B7_19_B3_2)
   replace HB4_3 := rw_st g20 HB4_3 (Ne.symm ne_B7_19_B4_3)
   replace HB5_4 := rw_st g20 HB5_4 (Ne.symm ne_B7_19_B5_4)
   replace HG := grown_newR HG g20 lo_B7_19
   replace HB7_19 := h20
   refine tl_nil ?_
   refine k17 _ _ ?_
   refine wp_seq_k fun K21 k21 => ?_
   refine wp_region_lit ?_
   refine sx_head (sv19.st w20) 6 [(27, Sp.is (vval s0 p0 (.slice none 0 0))), (28, Sp.is (dval o)), (29, Sp.vt ((insV [] o T, s0, (kd 276 p0)), (0 : Int)) ((fun _ => False))), (26, Sp.vt ((insV [] o T, s0, (kd 276 p0)), (0 : Int)) ((fun _ => False))), (30, Sp.vv (insV [] o T, s0, (kd 276 p0)) ((fun _ => False))), (31, Sp.is (.int .i64 0))] rfl (by kernel_rfl) (by kernel_rfl) (by kernel_rfl)
     ⟨yl r6 (tyVa hs0d hp0d (.slice none 0 0) rfl) HB7_19, yl r6 (tyD o ho.1) HB5_4, ox_call (Sp.vt ((insV [] o T, s0, (kd 276 p0)), (0 : Int)) ((fun _ => False))) [vval s0 p0 (.slice none 0 0), dval o] rfl rfl trivial ⟨(oy rfl rfl), (oy rfl rfl), trivial⟩ (ens_on (ks := []) (ao := none) (cap := 0) hs0d hp0d ho (RdK.nil _) rfl hT (ensO_new rfl rfl (by decide))) (fun _ _ h => h) (enter_of Try.func36 (by kernel_rfl) rfl), ym r5, ox_extract rfl rfl rfl trivial (fun w u h => vt_vault w u h), ox_extract rfl rfl rfl trivial (fun w u h => vt_err w u h), trivial⟩ fun a22 w22 g22 st22 => ?_
   obtain ⟨hn22, hd22, e22_27, e22_28, e22_29, e22_26, e22_30, e22_31, e22_7, e22_24, e22_25, e22_12, e22_13, e22_14, e22_15, e22_16, e22_17, e22_18, e22_19, e22_20, e22_21, e22_22, e22_6, e22_5, e22_4, e22_3, e22_0, e22_1, e22_2, -⟩ := st22
   obtain ⟨ao23, cap23, ks23, e22_30q, hp23, hk23, hf23⟩ := e22_30
   replace HB3_2 := rw_kn g22 HB3_2
   replace HB4_3 := rw_kn g22 HB4_3
   replace HB5_4 := rw_kn g22 HB5_4
   replace HB7_19 := rw_kn g22 HB7_19
   replace HG := grown_trans HG g22
   have ap_hk23_B3_2 := vt_ap0 hf23 HB3_2 (by decide)
   have ap_hk23_B4_3 := vt_ap0 hf23 HB4_3 (by decide)
   have ap_hk23_B5_4 := vt_ap0 hf23 HB5_4 (by decide)
   have ap_hk23_B7_19 := vt_ap0 hf23 HB7_19 (by decide)
   have sv22 : Sv 56 [] [(7, _), (24, _), (25, _), (12, _), (13, _), (14, _), (15, _), (16, _), (17, _), (18, _), (19, _), (20, _), (21, _), (22, _), (6, _), (5, _), (4, _), (3, _), (0, _), (1, _), (2, _), (30, _), (31, _)] a22 := ⟨hn22, hd22, e22_7, e22_24, e22_25, e22_12, e22_13, e22_14, e22_15, e22_16, e22_17, e22_18, e22_19, e22_20, e22_21, e22_22, e22_6, e22_5, e22_4, e22_3, e22_0, e22_1, e22_2, e22_30q, e22_31, trivial⟩
   refine tl_alloc (T := 58) (Z := ([bv zero32, bv zero32, [.slice none 0 0]].flatten)) sv22 rfl rfl rfl (fun a w => by kernel_rfl) fun a24 w24 B8_24 eq_B8_24 g24 z24 HB8_24 sv24 => ?_
   have ne_B8_24_B3_2 := nb_ne HB3_2 eq_B8_24
   have ne_B8_24_B4_3 := nb_ne HB4_3 eq_B8_24
   have ne_B8_24_B5_4 := nb_ne HB5_4 eq_B8_24
   have ne_B8_24_B7_19 := nb_ne HB7_19 eq_B8_24
   have lo_B8_24 := nb_lo HG eq_B8_24
   have ap_hk23_B8_24 := nb_ap (hk23.lt) eq_B8_24
   replace HB3_2 := rw_kn g24 HB3_2
   replace HB4_3 := rw_kn g24 HB4_3
   replace HB5_4 := rw_kn g24 HB5_4
   replace HB7_19 := rw_kn g24 HB7_19
   replace hk23 := hk23.kn g24
   replace HG := grown_trans HG g24
   refine tl_sw sv24 r7 (tyVa hs0d (kd_dg _ _) (.slice ao23 ks23.length cap23) rfl) HB8_24 (by first | rfl | simp [kcells, bv_length, zero32_len, hs0d.1, (kd_dg _ _).1]) fun w25 g25 h25 => ?_
   replace HB3_2 := rw_st g25 HB3_2 (Ne.symm ne_B8_24_B3_2)
   replace HB4_3 := rw_st g25 HB4_3 (Ne.symm ne_B8_24_B4_3)
   replace HB5_4 := rw_st g25 HB5_4 (Ne.symm ne_B8_24_B5_4)
   replace HB7_19 := rw_st g25 HB7_19 (Ne.symm ne_B8_24_B7_19)
   replace hk23 := hk23.offR g25 (no_b ap_hk23_B8_24)
   replace HG := grown_newR HG g25 lo_B8_24
   replace HB8_24 := h25
   refine tl_as (v := .int .i64 0) sv24 r6 fun a26 sv26 => ?_
   refine tl_nil ?_
   refine k21 _ _ ?_
   refine wp_seq_k fun K27 k27 => ?_
   refine rx_tail (sv26.st w25) (by kernel_rfl) 8 [(32, Sp.is (vval s0 p0 (.slice none 0 0))), (33, Sp.is (valIdf x)), (34, Sp.is (dval ((pse s0 x)))), (35, Sp.is (vval s0 ((kd 276 p0)) (.slice ao23 ks23.length cap23))), (36, Sp.is (valIdf x)), (37, Sp.is (dval ((pse s0 x)))), (10, Sp.new w25.heap.size ((bv zero32)) 29), (11, Sp.new w25.heap.size ((bv zero32)) 29)] rfl (by kernel_rfl) (by kernel_rfl) (by kernel_rfl) [] (by kernel_rfl)
     ⟨yl r6 (tyVa hs0d hp0d (.slice none 0 0) rfl) HB7_19, yl r6 (tyIdf x) HB4_3, ox_call (Sp.is (dval ((pse s0 x)))) [vval s0 p0 (.slice none 0 0), valIdf x] rfl rfl trivial ⟨(oy rfl rfl), (oy rfl rfl), trivial⟩ (is_on fun W g => pse_walk s0 _ hs0d hp0d _ _ _ x hx W) (fun _ _ h => h) (enter_of Try.func47 (by kernel_rfl) rfl), yl r6 (tyVa hs0d (kd_dg _ _) (.slice ao23 ks23.length cap23) rfl) HB8_24, yl r6 (tyIdf x) HB4_3, ox_call (Sp.is (dval ((pse s0 x)))) [vval s0 ((kd 276 p0)) (.slice ao23 ks23.length cap23), valIdf x] rfl rfl trivial ⟨(oy rfl rfl), (oy rfl rfl), trivial⟩ (is_on fun W g => pse_walk s0 _ hs0d (kd_dg _ _) _ _ _ x hx W) (fun _ _ h => h) (enter_of Try.func47 (by kernel_rfl) rfl), ox_alloc rfl trivial (Nat.le_refl _) (fun a w => by kernel_rfl) (fun _ _ h => h), ox_alloc rfl trivial (Nat.le_refl _) (fun a w => by kernel_rfl) (fun _ _ h => h), trivial⟩ trivial
     [10, 11] (by kernel_rfl) ⟨Sp.new_lt, Sp.new_lt, trivial⟩ ⟨.inl rfl, .inl rfl, .inl rfl, .inl rfl, .inl rfl, .inl rfl, .inr ⟨rfl, ((bv zero32)).toArray, 29, fun a w => by kernel_rfl⟩, .inr ⟨rfl, ((bv zero32)).toArray, 29, fun a w => by kernel_rfl⟩, trivial⟩ (by kernel_rfl) fun a28 w28 g28 st28 nd28 => ?_
   obtain ⟨hn28, hd28, e28_32, e28_33, e28_34, e28_35, e28_36, e28_37, e28_10, e28_11, e28_9, e28_8, e28_7, e28_24, e28_25, e28_12, e28_13, e28_14, e28_15, e28_16, e28_17, e28_18, e28_19, e28_20, e28_21, e28_22, e28_6, e28_5, e28_4, e28_3, e28_0, e28_1, e28_2, e28_30, e28_31, -⟩ := st28
   obtain ⟨B10_28, e28_10q, ge_B10_28, HB10_28⟩ := e28_10
   obtain ⟨B11_28, e28_11q, ge_B11_28, HB11_28⟩ := e28_11
   have ne_B10_28_B3_2 := nh_ne HB3_2 ge_B10_28
   have ne_B10_28_B4_3 := nh_ne HB4_3 ge_B10_28
   have ne_B10_28_B5_4 := nh_ne HB5_4 ge_B10_28
   have ne_B10_28_B7_19 := nh_ne HB7_19 ge_B10_28
   have ne_B10_28_B8_24 := nh_ne HB8_24 ge_B10_28
   have lo_B10_28 := nh_lo HG ge_B10_28
   have ap_hk23_B10_28 := nh_ap (hk23.lt) ge_B10_28
   have ne_B11_28_B3_2 := nh_ne HB3_2 ge_B11_28
   have ne_B11_28_B4_3 := nh_ne HB4_3 ge_B11_28
   have ne_B11_28_B5_4 := nh_ne HB5_4 ge_B11_28
   have ne_B11_28_B7_19 := nh_ne HB7_19 ge_B11_28
   have ne_B11_28_B8_24 := nh_ne HB8_24 ge_B11_28
   have lo_B11_28 := nh_lo HG ge_B11_28
   have ap_hk23_B11_28 := nh_ap (hk23.lt) ge_B11_28
   have ne_B11_28_B10_28 : B11_28 ≠ B10_28 := fun h => nd28 11 (by simp) 10 (by simp) (by decide) (e28_11q.trans (by rw [e28_10q, h]))
   replace HB3_2 := rw_kn g28 HB3_2
   replace HB4_3 := rw_kn g28 HB4_3
   replace HB5_4 := rw_kn g28 HB5_4
   replace HB7_19 := rw_kn g28 HB7_19
   replace HB8_24 := rw_kn g28 HB8_24
   replace hk23 := hk23.kn g28
   replace HG := grown_trans HG g28
   have sv28 : Sv 56 [] [(9, _), (8, _), (7, _), (24, _), (25, _), (12, _), (13, _), (14, _), (15, _), (16, _), (17, _), (18, _), (19, _), (20, _), (21, _), (22, _), (6, _), (5, _), (4, _), (3, _), (0, _), (1, _), (2, _), (30, _), (31, _), (34, _), (37, _), (10, _), (11, _)] a28 := ⟨hn28, hd28, e28_9, e28_8, e28_7, e28_24, e28_25, e28_12, e28_13, e28_14, e28_15, e28_16, e28_17, e28_18, e28_19, e28_20, e28_21, e28_22, e28_6, e28_5, e28_4, e28_3, e28_0, e28_1, e28_2, e28_30, e28_31, e28_34, e28_37, e28_10q, e28_11q, trivial⟩
   refine tl_sw sv28 r7 (tyD ((pse s0 x)) (pse_dg s0 x).1) HB10_28 (lenD (pse_dg s0 x)) fun w29 g29 h29 => ?_
   replace HB3_2 := rw_st g29 HB3_2 (Ne.symm ne_B10_28_B3_2)
   replace HB4_3 := rw_st g29 HB4_3 (Ne.symm ne_B10_28_B4_3)
   replace HB5_4 := rw_st g29 HB5_4 (Ne.symm ne_B10_28_B5_4)
   replace HB7_19 := rw_st g29 HB7_19 (Ne.symm ne_B10_28_B7_19)
   replace HB8_24 := rw_st g29 HB8_24 (Ne.symm ne_B10_28_B8_24)
   replace HB11_28 := rw_st g29 HB11_28 ne_B11_28_B10_28
   replace hk23 := hk23.offR g29 (no_b ap_hk23_B10_28)
   replace HG := grown_newR HG g29 lo_B10_28
   replace HB10_28 := h29
   refine tl_sw sv28 r7 (tyD ((pse s0 x)) (pse_dg s0 x).1) HB11_28 (lenD (pse_dg s0 x)) fun w30 g30 h30 => ?_
   replace HB3_2 := rw_st g30 HB3_2 (Ne.symm ne_B11_28_B3_2)
   replace HB4_3 := rw_st g30 HB4_3 (Ne.symm ne_B11_28_B4_3)
   replace HB5_4 := rw_st g30 HB5_4 (Ne.symm ne_B11_28_B5_4)
   replace HB7_19 := rw_st g30 HB7_19 (Ne.symm ne_B11_28_B7_19)
   replace HB8_24 := rw_st g30 HB8_24 (Ne.symm ne_B11_28_B8_24)
   replace HB10_28 := rw_st g30 HB10_28 (Ne.symm ne_B11_28_B10_28)
   replace hk23 := hk23.offR g30 (no_b ap_hk23_B11_28)
   replace HG := grown_newR HG g30 lo_B11_28
   replace HB11_28 := h30
   refine tl_nil ?_
   refine k27 _ _ ?_
   refine wp_seq_k fun K31 k31 => ?_
   refine rx_av (sv28.dl [6]) [(38, .int .i64 0), (39, .bool true), (40, .bool true), (41, dval ((pse s0 x))), (42, dval seed), (43, vval s0 p0 (.slice none 0 0)), (44, valIdf x), (45, dval ((pse s0 x))), (46, .bool true), (47, .bool true), (48, .bool true), (49, dval ((pse s0 x))), (50, dval ((pse s0 x))), (51, .bool true), (52, .bool true), (53, .bool true), (54, .bool true), (55, .bool true), (6, .bool true)]
     ⟨ym r5, ybc r6 (fun _ => rn_eql rfl), ym r5, ox_load rfl rfl (gy rfl rfl rfl) (oy rfl rfl) (fun _ g => loadsAt (tyD ((pse s0 x)) (pse_dg s0 x).1) (rangeAt_row (row_of g HB10_28 (by simp)))) (fun _ => rfl), ox_load rfl rfl (gy rfl rfl rfl) (oy rfl rfl) (fun _ g => loadsAt (tyD seed hse.1) (rangeAt_row (row_of g HB3_2 (by simp)))) (fun _ => rfl), ox_call (Sp.is (vval s0 p0 (.slice none 0 0))) [dval seed] rfl rfl (gy rfl rfl rfl) ⟨(oy rfl rfl), trivial⟩ (is_on fun W g => by rw [← hs0, ← hp0]; exact rnewv_walk seed hse W) (fun _ _ h => h) (enter_of Try.func49 (by kernel_rfl) rfl), ox_load rfl rfl (gy rfl rfl rfl) (oy rfl rfl) (fun _ g => loadsAt (tyIdf x) (rangeAt_row (row_of g HB4_3 (by simp)))) (fun _ => rfl), ox_call (Sp.is (dval ((pse s0 x)))) [vval s0 p0 (.slice none 0 0), valIdf x] rfl rfl (gy rfl rfl rfl) ⟨(oy rfl rfl), (oy rfl rfl), trivial⟩ (is_on fun W g => rpse_walk s0 _ hs0d hp0d _ _ _ x hx W) (fun _ _ h => h) (enter_of Try.func48 (by kernel_rfl) rfl), ox_bin rfl rfl (gy rfl rfl rfl) (oy rfl rfl) (oy rfl rfl) (fun _ => by simpa using (dig_eqb (pse_dg s0 x) (pse_dg s0 x) _ _ _).1) (fun _ => rfl), ox_pick rfl rfl trivial (oy rfl rfl) (oy rfl rfl) (fun _ => rfl), ym r5, ox_load rfl rfl (gy rfl rfl rfl) (oy rfl rfl) (fun _ g => loadsAt (tyD ((pse s0 x)) (pse_dg s0 x).1) (rangeAt_row (row_of g HB10_28 (by simp)))) (fun _ => rfl), ox_load rfl rfl (gy rfl rfl rfl) (oy rfl rfl) (fun _ g => loadsAt (tyD ((pse s0 x)) (pse_dg s0 x).1) (rangeAt_row (row_of g HB11_28 (by simp)))) (fun _ => rfl), ox_bin rfl rfl (gy rfl rfl rfl) (oy rfl rfl) (oy rfl rfl) (fun _ => by simpa using (dig_eqb (pse_dg s0 x) (pse_dg s0 x) _ _ _).1) (fun _ => rfl), ox_pick rfl rfl trivial (oy rfl rfl) (oy rfl rfl) (fun _ => rfl), ym r5, ox_call (Sp.is (.bool true)) [] rfl rfl (gy rfl rfl rfl) trivial (is_on fun W g => awake_walk W) (fun _ _ h => h) (enter_of Try.func19 (by kernel_rfl) rfl), ox_pick rfl rfl trivial (oy rfl rfl) (oy rfl rfl) (fun _ => rfl), ox_move 55 6 (.inr rfl) rfl rfl trivial (fun _ _ h => h), trivial⟩ fun a32 w32 g32 sv32 => ?_
   refine k31 _ _ ?_
   replace HB3_2 := rw_kn g32 HB3_2
   replace HB4_3 := rw_kn g32 HB4_3
   replace HB5_4 := rw_kn g32 HB5_4
   replace HB7_19 := rw_kn g32 HB7_19
   replace HB8_24 := rw_kn g32 HB8_24
   replace HB10_28 := rw_kn g32 HB10_28
   replace HB11_28 := rw_kn g32 HB11_28
   replace hk23 := hk23.kn g32
   replace HG := grown_trans HG g32
   refine wp_ret ?_
   repeat refine then_ret ?_
   refine cx_ret (fn := Try.f14) sv32 (res_tmp (p := 6) Try.results14 sv32 rfl rfl) ?_
   exact ⟨rfl, HG⟩
end Go.Proofs.Yteakoleceoclkaa
