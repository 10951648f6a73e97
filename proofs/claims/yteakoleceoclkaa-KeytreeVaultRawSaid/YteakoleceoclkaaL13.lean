/- Key trees: the law KeytreeVaultRaw. (printed by gen_l13.py) -/
import Derived.Test.YteakoleceoclkaaVD
import Derived.Test.YteakoleceoclkaaVH
namespace Go.Proofs.Yteakoleceoclkaa
open Go.RowKit Go.Shelf
set_option linter.unusedSimpArgs false
set_option linter.unusedVariables false
set_option maxRecDepth 100000 in
set_option maxHeartbeats 4000000 in
theorem vraw_walk (ks : List VK) (ao : Option Addr) (cap : Nat) (sa po : List Nat) (hsa : Dg sa) (hpo : Dg po) (o : List Nat) (ho : Dg o) (ad : Int) (w : World) (hr : RdK w (.slice ao ks.length cap) ks) :
   Calls Try.prog 13 #[vval sa po (.slice ao ks.length cap), dval o, .int .i64 ad] w fun e w' => e = .returned (.bool true) ∧ w.grownBy w' none := by
 have hlen := hr.len
 obtain ⟨P, hm⟩ : ∃ P, ks.map VK.p = P := ⟨_, rfl⟩
 obtain ⟨T, hT⟩ : ∃ T, tree (kd 275 po) [] = T := ⟨_, rfl⟩
 obtain ⟨q, hq⟩ : ∃ q, keyO P o ad = q := ⟨_, rfl⟩
 have hqd : Dg q.1 := by rw [← hq, ← hm]; exact keyO_dg hr.noks
 obtain ⟨r1, h1⟩ : ∃ r, ensO (P, sa, po) o T (kd 276 po) = r := ⟨_, rfl⟩
 obtain ⟨r2, h2⟩ : ∃ r, shrO (P, sa, po) o ad = r := ⟨_, rfl⟩
 obtain ⟨r3, h3⟩ : ∃ r, drpO (P, sa, po) o = r := ⟨_, rfl⟩
 have hdg_r1 : VDg r1.1 := by rw [← h1]; exact ensO_dg ⟨hsa, hpo⟩ (kd_dg _ _)
 have hdg_r2 : VDg r2.1 := by rw [← h2]; exact shrO_dg ⟨hsa, hpo⟩
 have hdg_r3 : VDg r3.1 := by rw [← h3]; exact drpO_dg ⟨hsa, hpo⟩
 refine cx_enter Try.func13 rfl Try.ntmps13 rfl fun a0 sv0 => ?_
 have HG := World.grownBy.refl w none
 replace sv0 : Sv 146 [] [(0, vval sa po (.slice ao ks.length cap)), (1, dval o), (2, .int .i64 ad)] a0 := sv0
 refine wp_seq_k fun K1 k1 => ?_
 refine wp_region_lit ?_
 refine tl_box sv0 rfl rfl rfl rfl rfl rfl (tyVa hsa hpo (.slice ao ks.length cap) rfl) fun a2 w2 B3_2 eq_B3_2 g2 z2 HB3_2 sv2 => ?_
 have lo_B3_2 := nb_lo HG eq_B3_2
 have ap_hr_B3_2 := nb_ap (hr.lt) eq_B3_2
 replace hr := hr.kn g2
 replace HG := grown_trans HG g2
 refine tl_box sv2 rfl rfl rfl rfl rfl rfl (tyD o ho.1) fun a3 w3 B4_3 eq_B4_3 g3 z3 HB4_3 sv3 => ?_
 have ne_B4_3_B3_2 := nb_ne HB3_2 eq_B4_3
 have lo_B4_3 := nb_lo HG eq_B4_3
 have ap_hr_B4_3 := nb_ap (hr.lt) eq_B4_3
 replace HB3_2 := rw_kn g3 HB3_2
 replace hr := hr.kn g3
 replace HG := grown_trans HG g3
 refine tl_as (v := .bool false) sv3 r6 fun a4 sv4 => ?_
 refine tl_nil ?_
 refine k1 _ _ ?_
 refine wp_seq_k fun K5 k5 => ?_
 refine wp_seq_k fun K6 k6 => ?_
 by_cases hbig : 70 < (ks.length : Int)
 · refine wp_region_lit ?_
   refine sx_hv sv4 4 [(24, pk B3_2 64), (25, .slice ao ks.length cap), (26, .int .i64 ((ks.length : Nat))), (27, .bool true)]
     ⟨yf r6 (fun _ => by kernel_rfl), yp (i := 2) r6 (tyKs (.slice ao ks.length cap) rfl) HB3_2 rfl (by simp [bv_length, zero32_len, hsa.1, hpo.1]), ox_len (Try.underlying56) rfl rfl trivial (oy rfl rfl) (fun _ => rfl), ybc r6 (fun _ => rn_gtr (decide_eq_true hbig)), trivial⟩ fun a7 w7 g7 sv7 => ?_
   refine tl_nil ?_
   refine k6 _ _ ?_
   refine cx_ifT sv7 rfl rfl ?_
   refine wp_seq_k fun K8 k8 => ?_
   refine wp_region_lit ?_
   replace HB3_2 := rw_kn g7 HB3_2
   replace HB4_3 := rw_kn g7 HB4_3
   replace hr := hr.kn g7
   replace HG := grown_trans HG g7
   refine sx_hv sv7 1 [(28, .bool true)]
     ⟨ox_call (Sp.is (.bool true)) [] rfl rfl trivial trivial (is_on fun W g => awake_walk W) (fun _ _ h => h) (enter_of Try.func19 (by kernel_rfl) rfl), trivial⟩ fun a9 w9 g9 sv9 => ?_
   refine tl_as (v := .bool true) sv9 r6 fun a10 sv10 => ?_
   refine tl_nil ?_
   refine k8 _ _ ?_
   replace HB3_2 := rw_kn g9 HB3_2
   replace HB4_3 := rw_kn g9 HB4_3
   replace hr := hr.kn g9
   replace HG := grown_trans HG g9
   refine wp_ret ?_
   repeat refine then_ret ?_
   refine cx_ret (fn := Try.f13) sv10 (res_tmp (p := 6) Try.results13 sv10 rfl rfl) ?_
   exact ⟨rfl, HG⟩
 · refine wp_region_lit ?_
   refine sx_hv sv4 4 [(24, pk B3_2 64), (25, .slice ao ks.length cap), (26, .int .i64 ((ks.length : Nat))), (27, .bool false)]
     ⟨yf r6 (fun _ => by kernel_rfl), yp (i := 2) r6 (tyKs (.slice ao ks.length cap) rfl) HB3_2 rfl (by simp [bv_length, zero32_len, hsa.1, hpo.1]), ox_len (Try.underlying56) rfl rfl trivial (oy rfl rfl) (fun _ => rfl), ybc r6 (fun _ => rn_gtr (decide_eq_false hbig)), trivial⟩ fun a11 w11 g11 sv11 => ?_
   refine tl_nil ?_
   refine k6 _ _ ?_
   refine cx_ifF sv11 rfl rfl ?_
   refine wp_skip ?_
   refine k5 _ _ ?_
   refine wp_seq_k fun K12 k12 => ?_
   refine wp_seq_k fun K13 k13 => ?_
   refine wp_region_lit ?_
   refine tl_as (v := .int .i64 0) sv11 r6 fun a14 sv14 => ?_
   refine tl_nil ?_
   refine k13 _ _ ?_
   refine cx_block fun Q15 x15 y15 r15 o15 => ?_
   replace HB3_2 := rw_kn g11 HB3_2
   replace HB4_3 := rw_kn g11 HB4_3
   replace hr := hr.kn g11
   replace HG := grown_trans HG g11
   refine wp_loop (fun a w' => ∃ (i : Nat), (i ≤ ks.length) ∧ Sv 146 [] [(7, .int .i64 ((i : Int))), (24, pk B3_2 64), (25, .slice ao ks.length cap), (26, .int .i64 ((ks.length : Nat))), (27, .bool false), (4, pt B4_3), (3, pt B3_2), (0, vval sa po (.slice ao ks.length cap)), (1, dval o), (2, .int .i64 ad)] a ∧ w.grownBy w' none ∧ w'.heap[B3_2]? = some (.cells ([bv sa, bv po, [.slice ao ks.length cap]].flatten).toArray 58 (0, 0)) ∧ w'.heap[B4_3]? = some (.cells (bv o).toArray 29 (0, 0)) ∧ RdK w' (.slice ao ks.length cap) ks) (fun a _ => (ks.length - intOf (a.tmps.getD 7 undef)).toNat) ⟨0, Nat.zero_le _, ⟨sv14.1, sv14.2.1, sv14.2.2.1, sv14.2.2.2.1, sv14.2.2.2.2.1, sv14.2.2.2.2.2.1, sv14.2.2.2.2.2.2.1, sv14.2.2.2.2.2.2.2.2.1, sv14.2.2.2.2.2.2.2.2.2.1, sv14.2.2.2.2.2.2.2.2.2.2.1, sv14.2.2.2.2.2.2.2.2.2.2.2.1, sv14.2.2.2.2.2.2.2.2.2.2.2.2.1, trivial⟩, HG, HB3_2, HB4_3, hr⟩ fun a16 w16 hI16 => ?_
   clear HB3_2
   clear HB4_3
   clear hr
   clear HG
   obtain ⟨i, hin, sv16, HG, HB3_2, HB4_3, hr⟩ := hI16
   refine wp_seq_k fun K17 k17 => ?_
   refine wp_seq_k fun K18 k18 => ?_
   by_cases hi : i < ks.length
   · obtain ⟨x, hx_x⟩ : ∃ x, ks[i]'hi = x := ⟨_, rfl⟩
     refine wp_region_lit ?_
     refine sx_hv sv16 5 [(29, .int .i64 ((i : Int))), (30, pk B3_2 64), (31, .slice ao ks.length cap), (32, .int .i64 ((ks.length : Nat))), (33, .bool true)]
       ⟨ym r5, yf r6 (fun _ => by kernel_rfl), yp (i := 2) r6 (tyKs (.slice ao ks.length cap) rfl) HB3_2 rfl (by simp [bv_length, zero32_len, hsa.1, hpo.1]), ox_len (Try.underlying56) rfl rfl trivial (oy rfl rfl) (fun _ => rfl), ybt r7 (fun _ => rn_lss (decide_eq_true (by omega))), trivial⟩ fun a19 w19 g19 sv19 => ?_
     refine tl_nil ?_
     refine k18 _ _ ?_
     refine cx_ifT sv19 rfl rfl ?_
     refine wp_skip ?_
     refine k17 _ _ ?_
     refine wp_seq_k fun K20 k20 => ?_
     refine cx_block fun Q21 x21 y21 r21 o21 => ?_
     refine wp_seq_k fun K22 k22 => ?_
     replace HB3_2 := rw_kn g19 HB3_2
     replace HB4_3 := rw_kn g19 HB4_3
     replace hr := hr.kn g19
     replace HG := grown_trans HG g19
     by_cases h30 : 30 < (x.l.length : Int)
     · refine wp_region_lit ?_
       refine sx_hv sv19 9 [(36, pk B3_2 64), (37, .slice ao ks.length cap), (38, .int .i64 ((i : Int))), (39, pk ((bO ao)) (oO ao + i * 33)), (40, pk ((bO ao)) (oO ao + i * 33 + 32)), (41, pk ((bO ao)) (oO ao + i * 33 + 32)), (42, VK.s x), (43, .int .i64 ((x.l.length : Nat))), (44, .bool true)]
         ⟨yf r6 (fun _ => by kernel_rfl), yp (i := 2) r6 (tyKs (.slice ao ks.length cap) rfl) HB3_2 rfl (by simp [bv_length, zero32_len, hsa.1, hpo.1]), ym r5, ox_index rfl rfl trivial (oy rfl rfl) (oy rfl rfl) (fun w => ix_sl Try.underlying56 (by kernel_rfl) (hr.1.1) (by omega) (rfl) w) (fun _ => rfl), yf r6 (fun _ => by kernel_rfl), yf r6 (fun _ => by kernel_rfl), ox_load rfl rfl trivial (oy rfl rfl) (fun _ g => loadsAt (tyNs (VK.s x) rfl) (RdK.treeX (hr.kn g) rfl hi hx_x)) (fun _ => rfl), ox_len (Try.underlying32) rfl rfl trivial (oy rfl rfl) (fun _ => rfl), ybc r6 (fun _ => rn_gtr (decide_eq_true h30)), trivial⟩ fun a23 w23 g23 sv23 => ?_
       refine tl_nil ?_
       refine k22 _ _ ?_
       refine cx_ifT sv23 rfl rfl ?_
       refine wp_seq_k fun K24 k24 => ?_
       refine wp_region_lit ?_
       replace HB3_2 := rw_kn g23 HB3_2
       replace HB4_3 := rw_kn g23 HB4_3
       replace hr := hr.kn g23
       replace HG := grown_trans HG g23
       refine sx_hv sv23 1 [(45, .bool true)]
         ⟨ox_call (Sp.is (.bool true)) [] rfl rfl trivial trivial (is_on fun W g => awake_walk W) (fun _ _ h => h) (enter_of Try.func19 (by kernel_rfl) rfl), trivial⟩ fun a25 w25 g25 sv25 => ?_
       refine tl_as (v := .bool true) sv25 r6 fun a26 sv26 => ?_
       refine tl_nil ?_
       refine k24 _ _ ?_
       replace HB3_2 := rw_kn g25 HB3_2
       replace HB4_3 := rw_kn g25 HB4_3
       replace hr := hr.kn g25
       replace HG := grown_trans HG g25
       refine wp_ret ?_
       repeat refine then_ret ?_
       refine r21 _ _ ?_
       repeat refine then_ret ?_
       refine r15 _ _ ?_
       repeat refine then_ret ?_
       refine cx_ret (fn := Try.f13) sv26 (res_tmp (p := 6) Try.results13 sv26 rfl rfl) ?_
       exact ⟨rfl, HG⟩
     · refine wp_region_lit ?_
       refine sx_hv sv19 9 [(36, pk B3_2 64), (37, .slice ao ks.length cap), (38, .int .i64 ((i : Int))), (39, pk ((bO ao)) (oO ao + i * 33)), (40, pk ((bO ao)) (oO ao + i * 33 + 32)), (41, pk ((bO ao)) (oO ao + i * 33 + 32)), (42, VK.s x), (43, .int .i64 ((x.l.length : Nat))), (44, .bool false)]
         ⟨yf r6 (fun _ => by kernel_rfl), yp (i := 2) r6 (tyKs (.slice ao ks.length cap) rfl) HB3_2 rfl (by simp [bv_length, zero32_len, hsa.1, hpo.1]), ym r5, ox_index rfl rfl trivial (oy rfl rfl) (oy rfl rfl) (fun w => ix_sl Try.underlying56 (by kernel_rfl) (hr.1.1) (by omega) (rfl) w) (fun _ => rfl), yf r6 (fun _ => by kernel_rfl), yf r6 (fun _ => by kernel_rfl), ox_load rfl rfl trivial (oy rfl rfl) (fun _ g => loadsAt (tyNs (VK.s x) rfl) (RdK.treeX (hr.kn g) rfl hi hx_x)) (fun _ => rfl), ox_len (Try.underlying32) rfl rfl trivial (oy rfl rfl) (fun _ => rfl), ybc r6 (fun _ => rn_gtr (decide_eq_false h30)), trivial⟩ fun a27 w27 g27 sv27 => ?_
       refine tl_nil ?_
       refine k22 _ _ ?_
       refine cx_ifF sv27 rfl rfl ?_
       refine wp_skip ?_
       refine y21 _ _ ?_
       refine k20 _ _ ?_
       refine wp_region_lit ?_
       refine sx_hv sv27 2 [(34, .int .i64 ((i : Int))), (35, .int .i64 (((i + 1 : Nat) : Int)))]
         ⟨ym r5, ybc r6 (fun _ => rn_add (by rw [wrap_i64 (by omega) (by omega)]; omega)), trivial⟩ fun a28 w28 g28 sv28 => ?_
       have gc28 := grown_trans g27 g28
       refine tl_as (v := .int .i64 (((i + 1 : Nat) : Int))) sv28 r6 fun a29 sv29 => ?_
       refine tl_nil ?_
       replace HB3_2 := rw_kn gc28 HB3_2
       replace HB4_3 := rw_kn gc28 HB4_3
       replace hr := hr.kn gc28
       replace HG := grown_trans HG gc28
       exact ⟨⟨i + 1, by omega, ⟨sv29.1, sv29.2.1, sv29.2.2.1, sv29.2.2.2.2.2.2.2.2.2.2.2.2.2.2.2.2.2.2.2.1, sv29.2.2.2.2.2.2.2.2.2.2.2.2.2.2.2.2.2.2.2.2.1, sv29.2.2.2.2.2.2.2.2.2.2.2.2.2.2.2.2.2.2.2.2.2.1, sv29.2.2.2.2.2.2.2.2.2.2.2.2.2.2.2.2.2.2.2.2.2.2.1, sv29.2.2.2.2.2.2.2.2.2.2.2.2.2.2.2.2.2.2.2.2.2.2.2.1, sv29.2.2.2.2.2.2.2.2.2.2.2.2.2.2.2.2.2.2.2.2.2.2.2.2.1, sv29.2.2.2.2.2.2.2.2.2.2.2.2.2.2.2.2.2.2.2.2.2.2.2.2.2.1, sv29.2.2.2.2.2.2.2.2.2.2.2.2.2.2.2.2.2.2.2.2.2.2.2.2.2.2.1, sv29.2.2.2.2.2.2.2.2.2.2.2.2.2.2.2.2.2.2.2.2.2.2.2.2.2.2.2.1, trivial⟩, HG, HB3_2, HB4_3, hr⟩, by rw [show _ = _ from sv29.2.2.1, show _ = _ from sv16.2.2.1]; simp [intOf]; omega⟩
   · refine wp_region_lit ?_
     refine sx_hv sv16 5 [(29, .int .i64 ((i : Int))), (30, pk B3_2 64), (31, .slice ao ks.length cap), (32, .int .i64 ((ks.length : Nat))), (33, .bool false)]
       ⟨ym r5, yf r6 (fun _ => by kernel_rfl), yp (i := 2) r6 (tyKs (.slice ao ks.length cap) rfl) HB3_2 rfl (by simp [bv_length, zero32_len, hsa.1, hpo.1]), ox_len (Try.underlying56) rfl rfl trivial (oy rfl rfl) (fun _ => rfl), ybt r7 (fun _ => rn_lss (decide_eq_false (by omega))), trivial⟩ fun a30 w30 g30 sv30 => ?_
     refine tl_nil ?_
     refine k18 _ _ ?_
     refine cx_ifF sv30 rfl rfl ?_
     refine wp_exit ?_
     repeat refine then_exit ?_
     refine x15 _ _ ?_
     refine k12 _ _ ?_
     refine wp_seq_k fun K31 k31 => ?_
     refine wp_region_lit ?_
     replace HB3_2 := rw_kn g30 HB3_2
     replace HB4_3 := rw_kn g30 HB4_3
     replace hr := hr.kn g30
     replace HG := grown_trans HG g30
     refine sx_hv sv30 7 [(47, vval sa po (.slice ao ks.length cap)), (48, dval o), (49, .int .i64 ad), (50, .tuple #[dval q.1, .int .i64 q.2]), (46, .tuple #[dval q.1, .int .i64 q.2]), (51, dval q.1), (52, .int .i64 q.2)]
       ⟨yl r6 (tyVa hsa hpo (.slice ao ks.length cap) rfl) HB3_2, yl r6 (tyD o ho.1) HB4_3, ym r5, ox_call (Sp.is (.tuple #[dval q.1, .int .i64 q.2])) [vval sa po (.slice ao ks.length cap), dval o, .int .i64 ad] rfl rfl trivial ⟨(oy rfl rfl), (oy rfl rfl), (oy rfl rfl), trivial⟩ (is_on fun W g => key_B hsa hpo ho (hr.kn g) hm hq) (fun _ _ h => h) (enter_of Try.func39 (by kernel_rfl) rfl), ym r5, ox_extract rfl rfl rfl trivial (fun _ _ h => ⟨_, _, h, rfl, rfl⟩), ox_extract rfl rfl rfl trivial (fun _ _ h => ⟨_, _, h, rfl, rfl⟩), trivial⟩ fun a32 w32 g32 sv32 => ?_
     replace HB3_2 := rw_kn g32 HB3_2
     replace HB4_3 := rw_kn g32 HB4_3
     replace hr := hr.kn g32
     replace HG := grown_trans HG g32
     refine tl_alloc (T := 29) (Z := (bv zero32)) sv32 rfl rfl rfl (fun a w => by kernel_rfl) fun a33 w33 B8_33 eq_B8_33 g33 z33 HB8_33 sv33 => ?_
     have ne_B8_33_B3_2 := nb_ne HB3_2 eq_B8_33
     have ne_B8_33_B4_3 := nb_ne HB4_3 eq_B8_33
     have lo_B8_33 := nb_lo HG eq_B8_33
     have ap_hr_B8_33 := nb_ap (hr.lt) eq_B8_33
     replace HB3_2 := rw_kn g33 HB3_2
     replace HB4_3 := rw_kn g33 HB4_3
     replace hr := hr.kn g33
     replace HG := grown_trans HG g33
     refine tl_sw sv33 r7 (tyD q.1 hqd.1) HB8_33 (lenD hqd) fun w34 g34 h34 => ?_
     replace HB3_2 := rw_st g34 HB3_2 (Ne.symm ne_B8_33_B3_2)
     replace HB4_3 := rw_st g34 HB4_3 (Ne.symm ne_B8_33_B4_3)
     replace hr := hr.offR g34 (no_b ap_hr_B8_33)
     replace HG := grown_newR HG g34 lo_B8_33
     replace HB8_33 := h34
     refine tl_as (v := .int .i64 q.2) sv33 r6 fun a35 sv35 => ?_
     have sv36 : Sv 146 [] [(9, _), (8, _), (29, _), (30, _), (31, _), (32, _), (33, _), (7, _), (24, _), (25, _), (26, _), (27, _), (4, _), (3, _), (0, _), (1, _), (2, _)] a35 := sv35.dl [47, 48, 49, 50, 46, 51, 52]
     refine tl_nil ?_
     refine k31 _ _ ?_
     refine wp_seq_k fun K37 k37 => ?_
     refine wp_region_lit ?_
     refine sx_hv sv36 7 [(54, vval sa po (.slice ao ks.length cap)), (55, dval o), (56, .int .i64 ad), (57, .tuple #[dval q.1, .int .i64 q.2]), (53, .tuple #[dval q.1, .int .i64 q.2]), (58, dval q.1), (59, .int .i64 q.2)]
       ⟨yl r6 (tyVa hsa hpo (.slice ao ks.length cap) rfl) HB3_2, yl r6 (tyD o ho.1) HB4_3, ym r5, ox_call (Sp.is (.tuple #[dval q.1, .int .i64 q.2])) [vval sa po (.slice ao ks.length cap), dval o, .int .i64 ad] rfl rfl trivial ⟨(oy rfl rfl), (oy rfl rfl), (oy rfl rfl), trivial⟩ (is_on fun W g => rkey_B hsa hpo ho (hr.kn g) hm hq) (fun _ _ h => h) (enter_of Try.func40 (by kernel_rfl) rfl), ym r5, ox_extract rfl rfl rfl trivial (fun _ _ h => ⟨_, _, h, rfl, rfl⟩), ox_extract rfl rfl rfl trivial (fun _ _ h => ⟨_, _, h, rfl, rfl⟩), trivial⟩ fun a38 w38 g38 sv38 => ?_
     replace HB3_2 := rw_kn g38 HB3_2
     replace HB4_3 := rw_kn g38 HB4_3
     replace HB8_33 := rw_kn g38 HB8_33
     replace hr := hr.kn g38
     replace HG := grown_trans HG g38
     refine tl_alloc (T := 29) (Z := (bv zero32)) sv38 rfl rfl rfl (fun a w => by kernel_rfl) fun a39 w39 B10_39 eq_B10_39 g39 z39 HB10_39 sv39 => ?_
     have ne_B10_39_B3_2 := nb_ne HB3_2 eq_B10_39
     have ne_B10_39_B4_3 := nb_ne HB4_3 eq_B10_39
     have ne_B10_39_B8_33 := nb_ne HB8_33 eq_B10_39
     have lo_B10_39 := nb_lo HG eq_B10_39
     have ap_hr_B10_39 := nb_ap (hr.lt) eq_B10_39
     replace HB3_2 := rw_kn g39 HB3_2
     replace HB4_3 := rw_kn g39 HB4_3
     replace HB8_33 := rw_kn g39 HB8_33
     replace hr := hr.kn g39
     replace HG := grown_trans HG g39
     refine tl_sw sv39 r7 (tyD q.1 hqd.1) HB10_39 (lenD hqd) fun w40 g40 h40 => ?_
     replace HB3_2 := rw_st g40 HB3_2 (Ne.symm ne_B10_39_B3_2)
     replace HB4_3 := rw_st g40 HB4_3 (Ne.symm ne_B10_39_B4_3)
     replace HB8_33 := rw_st g40 HB8_33 (Ne.symm ne_B10_39_B8_33)
     replace hr := hr.offR g40 (no_b ap_hr_B10_39)
     replace HG := grown_newR HG g40 lo_B10_39
     replace HB10_39 := h40
     refine tl_as (v := .int .i64 q.2) sv39 r6 fun a41 sv41 => ?_
     have sv42 : Sv 146 [] [(11, _), (10, _), (9, _), (8, _), (29, _), (30, _), (31, _), (32, _), (33, _), (7, _), (24, _), (25, _), (26, _), (27, _), (4, _), (3, _), (0, _), (1, _), (2, _)] a41 := sv41.dl [54, 55, 56, 57, 53, 58, 59]
     refine tl_nil ?_
     refine k37 _ _ ?_
     refine wp_seq_k fun K43 k43 => ?_
     refine wp_region_lit ?_
     refine sx_head (sv42.st w40) 6 [(61, Sp.is (vval sa po (.slice ao ks.length cap))), (62, Sp.is (dval o)), (63, Sp.vt r1 ((fun _ => False))), (60, Sp.vt r1 ((fun _ => False))), (64, Sp.vv r1.1 ((fun _ => False))), (65, Sp.is (.int .i64 r1.2))] rfl (by kernel_rfl) (by kernel_rfl) (by kernel_rfl)
       ⟨yl r6 (tyVa hsa hpo (.slice ao ks.length cap) rfl) HB3_2, yl r6 (tyD o ho.1) HB4_3, ox_call (Sp.vt r1 ((fun _ => False))) [vval sa po (.slice ao ks.length cap), dval o] rfl rfl trivial ⟨(oy rfl rfl), (oy rfl rfl), trivial⟩ (ens_on hsa hpo ho hr hm hT h1) (fun _ _ h => h) (enter_of Try.func36 (by kernel_rfl) rfl), ym r5, ox_extract rfl rfl rfl trivial (fun w u h => vt_vault w u h), ox_extract rfl rfl rfl trivial (fun w u h => vt_err w u h), trivial⟩ fun a44 w44 g44 st44 => ?_
     obtain ⟨hn44, hd44, e44_61, e44_62, e44_63, e44_60, e44_64, e44_65, e44_11, e44_10, e44_9, e44_8, e44_29, e44_30, e44_31, e44_32, e44_33, e44_7, e44_24, e44_25, e44_26, e44_27, e44_4, e44_3, e44_0, e44_1, e44_2, -⟩ := st44
     obtain ⟨ao45, cap45, ks45, e44_64q, hp45, hk45, hf45⟩ := e44_64
     replace HB3_2 := rw_kn g44 HB3_2
     replace HB4_3 := rw_kn g44 HB4_3
     replace HB8_33 := rw_kn g44 HB8_33
     replace HB10_39 := rw_kn g44 HB10_39
     replace hr := hr.kn g44
     replace HG := grown_trans HG g44
     have ap_hk45_B3_2 := vt_ap0 hf45 HB3_2 (by decide)
     have ap_hk45_B4_3 := vt_ap0 hf45 HB4_3 (by decide)
     have ap_hk45_B8_33 := vt_ap0 hf45 HB8_33 (by decide)
     have ap_hk45_B10_39 := vt_ap0 hf45 HB10_39 (by decide)
     have sv44 : Sv 146 [] [(11, _), (10, _), (9, _), (8, _), (29, _), (30, _), (31, _), (32, _), (33, _), (7, _), (24, _), (25, _), (26, _), (27, _), (4, _), (3, _), (0, _), (1, _), (2, _), (64, _), (65, _)] a44 := ⟨hn44, hd44, e44_11, e44_10, e44_9, e44_8, e44_29, e44_30, e44_31, e44_32, e44_33, e44_7, e44_24, e44_25, e44_26, e44_27, e44_4, e44_3, e44_0, e44_1, e44_2, e44_64q, e44_65, trivial⟩
     refine tl_alloc (T := 58) (Z := ([bv zero32, bv zero32, [.slice none 0 0]].flatten)) sv44 rfl rfl rfl (fun a w => by kernel_rfl) fun a46 w46 B12_46 eq_B12_46 g46 z46 HB12_46 sv46 => ?_
     have ne_B12_46_B3_2 := nb_ne HB3_2 eq_B12_46
     have ne_B12_46_B4_3 := nb_ne HB4_3 eq_B12_46
     have ne_B12_46_B8_33 := nb_ne HB8_33 eq_B12_46
     have ne_B12_46_B10_39 := nb_ne HB10_39 eq_B12_46
     have lo_B12_46 := nb_lo HG eq_B12_46
     have ap_hr_B12_46 := nb_ap (hr.lt) eq_B12_46
     have ap_hk45_B12_46 := nb_ap (hk45.lt) eq_B12_46
     replace HB3_2 := rw_kn g46 HB3_2
     replace HB4_3 := rw_kn g46 HB4_3
     replace HB8_33 := rw_kn g46 HB8_33
     replace HB10_39 := rw_kn g46 HB10_39
     replace hr := hr.kn g46
     replace hk45 := hk45.kn g46
     replace HG := grown_trans HG g46
     refine tl_sw sv46 r7 (tyVa hdg_r1.1 hdg_r1.2 (.slice ao45 ks45.length cap45) rfl) HB12_46 (by first | rfl | simp [kcells, bv_length, zero32_len, hdg_r1.1.1, hdg_r1.2.1]) fun w47 g47 h47 => ?_
     replace HB3_2 := rw_st g47 HB3_2 (Ne.symm ne_B12_46_B3_2)
     replace HB4_3 := rw_st g47 HB4_3 (Ne.symm ne_B12_46_B4_3)
     replace HB8_33 := rw_st g47 HB8_33 (Ne.symm ne_B12_46_B8_33)
     replace HB10_39 := rw_st g47 HB10_39 (Ne.symm ne_B12_46_B10_39)
     replace hr := hr.offR g47 (no_b ap_hr_B12_46)
     replace hk45 := hk45.offR g47 (no_b ap_hk45_B12_46)
     replace HG := grown_newR HG g47 lo_B12_46
     replace HB12_46 := h47
     refine tl_as (v := .int .i64 r1.2) sv46 r6 fun a48 sv48 => ?_
     refine tl_nil ?_
     refine k43 _ _ ?_
     refine wp_seq_k fun K49 k49 => ?_
     refine wp_region_lit ?_
     refine sx_head (sv48.st w47) 6 [(67, Sp.is (vval sa po (.slice ao ks.length cap))), (68, Sp.is (dval o)), (69, Sp.vt r1 (fpK (.slice ao ks.length cap) ks)), (66, Sp.vt r1 (fpK (.slice ao ks.length cap) ks)), (70, Sp.vv r1.1 (fpK (.slice ao ks.length cap) ks)), (71, Sp.is (.int .i64 r1.2))] rfl (by kernel_rfl) (by kernel_rfl) (by kernel_rfl)
       ⟨yl r6 (tyVa hsa hpo (.slice ao ks.length cap) rfl) HB3_2, yl r6 (tyD o ho.1) HB4_3, ox_call (Sp.vt r1 (fpK (.slice ao ks.length cap) ks)) [vval sa po (.slice ao ks.length cap), dval o] rfl rfl trivial ⟨(oy rfl rfl), (oy rfl rfl), trivial⟩ (rens_on hsa hpo ho hr hm hT h1) (fun _ _ h => h) (enter_of Try.func41 (by kernel_rfl) rfl), ym r5, ox_extract rfl rfl rfl trivial (fun w u h => vt_vault w u h), ox_extract rfl rfl rfl trivial (fun w u h => vt_err w u h), trivial⟩ fun a50 w50 g50 st50 => ?_
     obtain ⟨hn50, hd50, e50_67, e50_68, e50_69, e50_66, e50_70, e50_71, e50_13, e50_12, e50_11, e50_10, e50_9, e50_8, e50_29, e50_30, e50_31, e50_32, e50_33, e50_7, e50_24, e50_25, e50_26, e50_27, e50_4, e50_3, e50_0, e50_1, e50_2, e50_64, e50_65, -⟩ := st50
     obtain ⟨ao51, cap51, ks51, e50_70q, hp51, hk51, hf51⟩ := e50_70
     replace HB3_2 := rw_kn g50 HB3_2
     replace HB4_3 := rw_kn g50 HB4_3
     replace HB8_33 := rw_kn g50 HB8_33
     replace HB10_39 := rw_kn g50 HB10_39
     replace HB12_46 := rw_kn g50 HB12_46
     replace hr := hr.kn g50
     replace hk45 := hk45.kn g50
     replace HG := grown_trans HG g50
     have ap_hk51_B3_2 := vt_ap1 hf51 ap_hr_B3_2 HB3_2 (by decide)
     have ap_hk51_B4_3 := vt_ap1 hf51 ap_hr_B4_3 HB4_3 (by decide)
     have ap_hk51_B8_33 := vt_ap1 hf51 ap_hr_B8_33 HB8_33 (by decide)
     have ap_hk51_B10_39 := vt_ap1 hf51 ap_hr_B10_39 HB10_39 (by decide)
     have ap_hk51_B12_46 := vt_ap1 hf51 ap_hr_B12_46 HB12_46 (by decide)
     have sv50 : Sv 146 [] [(13, _), (12, _), (11, _), (10, _), (9, _), (8, _), (29, _), (30, _), (31, _), (32, _), (33, _), (7, _), (24, _), (25, _), (26, _), (27, _), (4, _), (3, _), (0, _), (1, _), (2, _), (64, _), (65, _), (70, _), (71, _)] a50 := ⟨hn50, hd50, e50_13, e50_12, e50_11, e50_10, e50_9, e50_8, e50_29, e50_30, e50_31, e50_32, e50_33, e50_7, e50_24, e50_25, e50_26, e50_27, e50_4, e50_3, e50_0, e50_1, e50_2, e50_64, e50_65, e50_70q, e50_71, trivial⟩
     refine tl_alloc (T := 58) (Z := ([bv zero32, bv zero32, [.slice none 0 0]].flatten)) sv50 rfl rfl rfl (fun a w => by kernel_rfl) fun a52 w52 B14_52 eq_B14_52 g52 z52 HB14_52 sv52 => ?_
     have ne_B14_52_B3_2 := nb_ne HB3_2 eq_B14_52
     have ne_B14_52_B4_3 := nb_ne HB4_3 eq_B14_52
     have ne_B14_52_B8_33 := nb_ne HB8_33 eq_B14_52
     have ne_B14_52_B10_39 := nb_ne HB10_39 eq_B14_52
     have ne_B14_52_B12_46 := nb_ne HB12_46 eq_B14_52
     have lo_B14_52 := nb_lo HG eq_B14_52
     have ap_hr_B14_52 := nb_ap (hr.lt) eq_B14_52
     have ap_hk45_B14_52 := nb_ap (hk45.lt) eq_B14_52
     have ap_hk51_B14_52 := nb_ap (hk51.lt) eq_B14_52
     replace HB3_2 := rw_kn g52 HB3_2
     replace HB4_3 := rw_kn g52 HB4_3
     replace HB8_33 := rw_kn g52 HB8_33
     replace HB10_39 := rw_kn g52 HB10_39
     replace HB12_46 := rw_kn g52 HB12_46
     replace hr := hr.kn g52
     replace hk45 := hk45.kn g52
     replace hk51 := hk51.kn g52
     replace HG := grown_trans HG g52
     refine tl_sw sv52 r7 (tyVa hdg_r1.1 hdg_r1.2 (.slice ao51 ks51.length cap51) rfl) HB14_52 (by first | rfl | simp [kcells, bv_length, zero32_len, hdg_r1.1.1, hdg_r1.2.1]) fun w53 g53 h53 => ?_
     replace HB3_2 := rw_st g53 HB3_2 (Ne.symm ne_B14_52_B3_2)
     replace HB4_3 := rw_st g53 HB4_3 (Ne.symm ne_B14_52_B4_3)
     replace HB8_33 := rw_st g53 HB8_33 (Ne.symm ne_B14_52_B8_33)
     replace HB10_39 := rw_st g53 HB10_39 (Ne.symm ne_B14_52_B10_39)
     replace HB12_46 := rw_st g53 HB12_46 (Ne.symm ne_B14_52_B12_46)
     replace hr := hr.offR g53 (no_b ap_hr_B14_52)
     replace hk45 := hk45.offR g53 (no_b ap_hk45_B14_52)
     replace hk51 := hk51.offR g53 (no_b ap_hk51_B14_52)
     replace HG := grown_newR HG g53 lo_B14_52
     replace HB14_52 := h53
     refine tl_as (v := .int .i64 r1.2) sv52 r6 fun a54 sv54 => ?_
     refine tl_nil ?_
     refine k49 _ _ ?_
     refine wp_seq_k fun K55 k55 => ?_
     refine wp_region_lit ?_
     refine sx_head (sv54.st w53) 7 [(73, Sp.is (vval sa po (.slice ao ks.length cap))), (74, Sp.is (dval o)), (75, Sp.is (.int .i64 ad)), (76, Sp.vt r2 ((fun _ => False))), (72, Sp.vt r2 ((fun _ => False))), (77, Sp.vv r2.1 ((fun _ => False))), (78, Sp.is (.int .i64 r2.2))] rfl (by kernel_rfl) (by kernel_rfl) (by kernel_rfl)
       ⟨yl r6 (tyVa hsa hpo (.slice ao ks.length cap) rfl) HB3_2, yl r6 (tyD o ho.1) HB4_3, ym r5, ox_call (Sp.vt r2 ((fun _ => False))) [vval sa po (.slice ao ks.length cap), dval o, .int .i64 ad] rfl rfl trivial ⟨(oy rfl rfl), (oy rfl rfl), (oy rfl rfl), trivial⟩ (shr_on hsa hpo ho hr hm h2) (fun _ _ h => h) (enter_of Try.func42 (by kernel_rfl) rfl), ym r5, ox_extract rfl rfl rfl trivial (fun w u h => vt_vault w u h), ox_extract rfl rfl rfl trivial (fun w u h => vt_err w u h), trivial⟩ fun a56 w56 g56 st56 => ?_
     obtain ⟨hn56, hd56, e56_73, e56_74, e56_75, e56_76, e56_72, e56_77, e56_78, e56_15, e56_14, e56_13, e56_12, e56_11, e56_10, e56_9, e56_8, e56_29, e56_30, e56_31, e56_32, e56_33, e56_7, e56_24, e56_25, e56_26, e56_27, e56_4, e56_3, e56_0, e56_1, e56_2, e56_64, e56_65, e56_70, e56_71, -⟩ := st56
     obtain ⟨ao57, cap57, ks57, e56_77q, hp57, hk57, hf57⟩ := e56_77
     replace HB3_2 := rw_kn g56 HB3_2
     replace HB4_3 := rw_kn g56 HB4_3
     replace HB8_33 := rw_kn g56 HB8_33
     replace HB10_39 := rw_kn g56 HB10_39
     replace HB12_46 := rw_kn g56 HB12_46
     replace HB14_52 := rw_kn g56 HB14_52
     replace hr := hr.kn g56
     replace hk45 := hk45.kn g56
     replace hk51 := hk51.kn g56
     replace HG := grown_trans HG g56
     have ap_hk57_B3_2 := vt_ap0 hf57 HB3_2 (by decide)
     have ap_hk57_B4_3 := vt_ap0 hf57 HB4_3 (by decide)
     have ap_hk57_B8_33 := vt_ap0 hf57 HB8_33 (by decide)
     have ap_hk57_B10_39 := vt_ap0 hf57 HB10_39 (by decide)
     have ap_hk57_B12_46 := vt_ap0 hf57 HB12_46 (by decide)
     have ap_hk57_B14_52 := vt_ap0 hf57 HB14_52 (by decide)
     have sv56 : Sv 146 [] [(15, _), (14, _), (13, _), (12, _), (11, _), (10, _), (9, _), (8, _), (29, _), (30, _), (31, _), (32, _), (33, _), (7, _), (24, _), (25, _), (26, _), (27, _), (4, _), (3, _), (0, _), (1, _), (2, _), (64, _), (65, _), (70, _), (71, _), (77, _), (78, _)] a56 := ⟨hn56, hd56, e56_15, e56_14, e56_13, e56_12, e56_11, e56_10, e56_9, e56_8, e56_29, e56_30, e56_31, e56_32, e56_33, e56_7, e56_24, e56_25, e56_26, e56_27, e56_4, e56_3, e56_0, e56_1, e56_2, e56_64, e56_65, e56_70, e56_71, e56_77q, e56_78, trivial⟩
     refine tl_alloc (T := 58) (Z := ([bv zero32, bv zero32, [.slice none 0 0]].flatten)) sv56 rfl rfl rfl (fun a w => by kernel_rfl) fun a58 w58 B16_58 eq_B16_58 g58 z58 HB16_58 sv58 => ?_
     have ne_B16_58_B3_2 := nb_ne HB3_2 eq_B16_58
     have ne_B16_58_B4_3 := nb_ne HB4_3 eq_B16_58
     have ne_B16_58_B8_33 := nb_ne HB8_33 eq_B16_58
     have ne_B16_58_B10_39 := nb_ne HB10_39 eq_B16_58
     have ne_B16_58_B12_46 := nb_ne HB12_46 eq_B16_58
     have ne_B16_58_B14_52 := nb_ne HB14_52 eq_B16_58
     have lo_B16_58 := nb_lo HG eq_B16_58
     have ap_hr_B16_58 := nb_ap (hr.lt) eq_B16_58
     have ap_hk45_B16_58 := nb_ap (hk45.lt) eq_B16_58
     have ap_hk51_B16_58 := nb_ap (hk51.lt) eq_B16_58
     have ap_hk57_B16_58 := nb_ap (hk57.lt) eq_B16_58
     replace HB3_2 := rw_kn g58 HB3_2
     replace HB4_3 := rw_kn g58 HB4_3
     replace HB8_33 := rw_kn g58 HB8_33
     replace HB10_39 := rw_kn g58 HB10_39
     replace HB12_46 := rw_kn g58 HB12_46
     replace HB14_52 := rw_kn g58 HB14_52
     replace hr := hr.kn g58
     replace hk45 := hk45.kn g58
     replace hk51 := hk51.kn g58
     replace hk57 := hk57.kn g58
     replace HG := grown_trans HG g58
     refine tl_sw sv58 r7 (tyVa hdg_r2.1 hdg_r2.2 (.slice ao57 ks57.length cap57) rfl) HB16_58 (by first | rfl | simp [kcells, bv_length, zero32_len, hdg_r2.1.1, hdg_r2.2.1]) fun w59 g59 h59 => ?_
     replace HB3_2 := rw_st g59 HB3_2 (Ne.symm ne_B16_58_B3_2)
     replace HB4_3 := rw_st g59 HB4_3 (Ne.symm ne_B16_58_B4_3)
     replace HB8_33 := rw_st g59 HB8_33 (Ne.symm ne_B16_58_B8_33)
     replace HB10_39 := rw_st g59 HB10_39 (Ne.symm ne_B16_58_B10_39)
     replace HB12_46 := rw_st g59 HB12_46 (Ne.symm ne_B16_58_B12_46)
     replace HB14_52 := rw_st g59 HB14_52 (Ne.symm ne_B16_58_B14_52)
     replace hr := hr.offR g59 (no_b ap_hr_B16_58)
     replace hk45 := hk45.offR g59 (no_b ap_hk45_B16_58)
     replace hk51 := hk51.offR g59 (no_b ap_hk51_B16_58)
     replace hk57 := hk57.offR g59 (no_b ap_hk57_B16_58)
     replace HG := grown_newR HG g59 lo_B16_58
     replace HB16_58 := h59
     refine tl_as (v := .int .i64 r2.2) sv58 r6 fun a60 sv60 => ?_
     refine tl_nil ?_
     refine k55 _ _ ?_
     refine wp_seq_k fun K61 k61 => ?_
     refine wp_region_lit ?_
     refine sx_head (sv60.st w59) 7 [(80, Sp.is (vval sa po (.slice ao ks.length cap))), (81, Sp.is (dval o)), (82, Sp.is (.int .i64 ad)), (83, Sp.vt r2 (fpK (.slice ao ks.length cap) ks)), (79, Sp.vt r2 (fpK (.slice ao ks.length cap) ks)), (84, Sp.vv r2.1 (fpK (.slice ao ks.length cap) ks)), (85, Sp.is (.int .i64 r2.2))] rfl (by kernel_rfl) (by kernel_rfl) (by kernel_rfl)
       ⟨yl r6 (tyVa hsa hpo (.slice ao ks.length cap) rfl) HB3_2, yl r6 (tyD o ho.1) HB4_3, ym r5, ox_call (Sp.vt r2 (fpK (.slice ao ks.length cap) ks)) [vval sa po (.slice ao ks.length cap), dval o, .int .i64 ad] rfl rfl trivial ⟨(oy rfl rfl), (oy rfl rfl), (oy rfl rfl), trivial⟩ (rshr_on hsa hpo ho hr hm h2) (fun _ _ h => h) (enter_of Try.func43 (by kernel_rfl) rfl), ym r5, ox_extract rfl rfl rfl trivial (fun w u h => vt_vault w u h), ox_extract rfl rfl rfl trivial (fun w u h => vt_err w u h), trivial⟩ fun a62 w62 g62 st62 => ?_
     obtain ⟨hn62, hd62, e62_80, e62_81, e62_82, e62_83, e62_79, e62_84, e62_85, e62_17, e62_16, e62_15, e62_14, e62_13, e62_12, e62_11, e62_10, e62_9, e62_8, e62_29, e62_30, e62_31, e62_32, e62_33, e62_7, e62_24, e62_25, e62_26, e62_27, e62_4, e62_3, e62_0, e62_1, e62_2, e62_64, e62_65, e62_70, e62_71, e62_77, e62_78, -⟩ := st62
     obtain ⟨ao63, cap63, ks63, e62_84q, hp63, hk63, hf63⟩ := e62_84
     replace HB3_2 := rw_kn g62 HB3_2
     replace HB4_3 := rw_kn g62 HB4_3
     replace HB8_33 := rw_kn g62 HB8_33
     replace HB10_39 := rw_kn g62 HB10_39
     replace HB12_46 := rw_kn g62 HB12_46
     replace HB14_52 := rw_kn g62 HB14_52
     replace HB16_58 := rw_kn g62 HB16_58
     replace hr := hr.kn g62
     replace hk45 := hk45.kn g62
     replace hk51 := hk51.kn g62
     replace hk57 := hk57.kn g62
     replace HG := grown_trans HG g62
     have ap_hk63_B3_2 := vt_ap1 hf63 ap_hr_B3_2 HB3_2 (by decide)
     have ap_hk63_B4_3 := vt_ap1 hf63 ap_hr_B4_3 HB4_3 (by decide)
     have ap_hk63_B8_33 := vt_ap1 hf63 ap_hr_B8_33 HB8_33 (by decide)
     have ap_hk63_B10_39 := vt_ap1 hf63 ap_hr_B10_39 HB10_39 (by decide)
     have ap_hk63_B12_46 := vt_ap1 hf63 ap_hr_B12_46 HB12_46 (by decide)
     have ap_hk63_B14_52 := vt_ap1 hf63 ap_hr_B14_52 HB14_52 (by decide)
     have ap_hk63_B16_58 := vt_ap1 hf63 ap_hr_B16_58 HB16_58 (by decide)
     have sv62 : Sv 146 [] [(17, _), (16, _), (15, _), (14, _), (13, _), (12, _), (11, _), (10, _), (9, _), (8, _), (29, _), (30, _), (31, _), (32, _), (33, _), (7, _), (24, _), (25, _), (26, _), (27, _), (4, _), (3, _), (0, _), (1, _), (2, _), (64, _), (65, _), (70, _), (71, _), (77, _), (78, _), (84, _), (85, _)] a62 := ⟨hn62, hd62, e62_17, e62_16, e62_15, e62_14, e62_13, e62_12, e62_11, e62_10, e62_9, e62_8, e62_29, e62_30, e62_31, e62_32, e62_33, e62_7, e62_24, e62_25, e62_26, e62_27, e62_4, e62_3, e62_0, e62_1, e62_2, e62_64, e62_65, e62_70, e62_71, e62_77, e62_78, e62_84q, e62_85, trivial⟩
     refine tl_alloc (T := 58) (Z := ([bv zero32, bv zero32, [.slice none 0 0]].flatten)) sv62 rfl rfl rfl (fun a w => by kernel_rfl) fun a64 w64 B18_64 eq_B18_64 g64 z64 HB18_64 sv64 => ?_
     have ne_B18_64_B3_2 := nb_ne HB3_2 eq_B18_64
     have ne_B18_64_B4_3 := nb_ne HB4_3 eq_B18_64
     have ne_B18_64_B8_33 := nb_ne HB8_33 eq_B18_64
     have ne_B18_64_B10_39 := nb_ne HB10_39 eq_B18_64
     have ne_B18_64_B12_46 := nb_ne HB12_46 eq_B18_64
     have ne_B18_64_B14_52 := nb_ne HB14_52 eq_B18_64
     have ne_B18_64_B16_58 := nb_ne HB16_58 eq_B18_64
     have lo_B18_64 := nb_lo HG eq_B18_64
     have ap_hr_B18_64 := nb_ap (hr.lt) eq_B18_64
     have ap_hk45_B18_64 := nb_ap (hk45.lt) eq_B18_64
     have ap_hk51_B18_64 := nb_ap (hk51.lt) eq_B18_64
     have ap_hk57_B18_64 := nb_ap (hk57.lt) eq_B18_64
     have ap_hk63_B18_64 := nb_ap (hk63.lt) eq_B18_64
     replace HB3_2 := rw_kn g64 HB3_2
     replace HB4_3 := rw_kn g64 HB4_3
     replace HB8_33 := rw_kn g64 HB8_33
     replace HB10_39 := rw_kn g64 HB10_39
     replace HB12_46 := rw_kn g64 HB12_46
     replace HB14_52 := rw_kn g64 HB14_52
     replace HB16_58 := rw_kn g64 HB16_58
     replace hr := hr.kn g64
     replace hk45 := hk45.kn g64
     replace hk51 := hk51.kn g64
     replace hk57 := hk57.kn g64
     replace hk63 := hk63.kn g64
     replace HG := grown_trans HG g64
     refine tl_sw sv64 r7 (tyVa hdg_r2.1 hdg_r2.2 (.slice ao63 ks63.length cap63) rfl) HB18_64 (by first | rfl | simp [kcells, bv_length, zero32_len, hdg_r2.1.1, hdg_r2.2.1]) fun w65 g65 h65 => ?_
     replace HB3_2 := rw_st g65 HB3_2 (Ne.symm ne_B18_64_B3_2)
     replace HB4_3 := rw_st g65 HB4_3 (Ne.symm ne_B18_64_B4_3)
     replace HB8_33 := rw_st g65 HB8_33 (Ne.symm ne_B18_64_B8_33)
     replace HB10_39 := rw_st g65 HB10_39 (Ne.symm ne_B18_64_B10_39)
     replace HB12_46 := rw_st g65 HB12_46 (Ne.symm ne_B18_64_B12_46)
     replace HB14_52 := rw_st g65 HB14_52 (Ne.symm ne_B18_64_B14_52)
     replace HB16_58 := rw_st g65 HB16_58 (Ne.symm ne_B18_64_B16_58)
     replace hr := hr.offR g65 (no_b ap_hr_B18_64)
     replace hk45 := hk45.offR g65 (no_b ap_hk45_B18_64)
     replace hk51 := hk51.offR g65 (no_b ap_hk51_B18_64)
     replace hk57 := hk57.offR g65 (no_b ap_hk57_B18_64)
     replace hk63 := hk63.offR g65 (no_b ap_hk63_B18_64)
     replace HG := grown_newR HG g65 lo_B18_64
     replace HB18_64 := h65
     refine tl_as (v := .int .i64 r2.2) sv64 r6 fun a66 sv66 => ?_
     refine tl_nil ?_
     refine k61 _ _ ?_
     refine wp_seq_k fun K67 k67 => ?_
     refine wp_region_lit ?_
     refine sx_head (sv66.st w65) 6 [(87, Sp.is (vval sa po (.slice ao ks.length cap))), (88, Sp.is (dval o)), (89, Sp.vt r3 ((fun _ => False))), (86, Sp.vt r3 ((fun _ => False))), (90, Sp.vv r3.1 ((fun _ => False))), (91, Sp.is (.int .i64 r3.2))] rfl (by kernel_rfl) (by kernel_rfl) (by kernel_rfl)
       ⟨yl r6 (tyVa hsa hpo (.slice ao ks.length cap) rfl) HB3_2, yl r6 (tyD o ho.1) HB4_3, ox_call (Sp.vt r3 ((fun _ => False))) [vval sa po (.slice ao ks.length cap), dval o] rfl rfl trivial ⟨(oy rfl rfl), (oy rfl rfl), trivial⟩ (drp_on hsa hpo ho hr hm h3) (fun _ _ h => h) (enter_of Try.func37 (by kernel_rfl) rfl), ym r5, ox_extract rfl rfl rfl trivial (fun w u h => vt_vault w u h), ox_extract rfl rfl rfl trivial (fun w u h => vt_err w u h), trivial⟩ fun a68 w68 g68 st68 => ?_
     obtain ⟨hn68, hd68, e68_87, e68_88, e68_89, e68_86, e68_90, e68_91, e68_19, e68_18, e68_17, e68_16, e68_15, e68_14, e68_13, e68_12, e68_11, e68_10, e68_9, e68_8, e68_29, e68_30, e68_31, e68_32, e68_33, e68_7, e68_24, e68_25, e68_26, e68_27, e68_4, e68_3, e68_0, e68_1, e68_2, e68_64, e68_65, e68_70, e68_71, e68_77, e68_78, e68_84, e68_85, -⟩ := st68
     obtain ⟨ao69, cap69, ks69, e68_90q, hp69, hk69, hf69⟩ := e68_90
     replace HB3_2 := rw_kn g68 HB3_2
     replace HB4_3 := rw_kn g68 HB4_3
     replace HB8_33 := rw_kn g68 HB8_33
     replace HB10_39 := rw_kn g68 HB10_39
     replace HB12_46 := rw_kn g68 HB12_46
     replace HB14_52 := rw_kn g68 HB14_52
     replace HB16_58 := rw_kn g68 HB16_58
     replace HB18_64 := rw_kn g68 HB18_64
     replace hr := hr.kn g68
     replace hk45 := hk45.kn g68
     replace hk51 := hk51.kn g68
     replace hk57 := hk57.kn g68
     replace hk63 := hk63.kn g68
     replace HG := grown_trans HG g68
     have ap_hk69_B3_2 := vt_ap0 hf69 HB3_2 (by decide)
     have ap_hk69_B4_3 := vt_ap0 hf69 HB4_3 (by decide)
     have ap_hk69_B8_33 := vt_ap0 hf69 HB8_33 (by decide)
     have ap_hk69_B10_39 := vt_ap0 hf69 HB10_39 (by decide)
     have ap_hk69_B12_46 := vt_ap0 hf69 HB12_46 (by decide)
     have ap_hk69_B14_52 := vt_ap0 hf69 HB14_52 (by decide)
     have ap_hk69_B16_58 := vt_ap0 hf69 HB16_58 (by decide)
     have ap_hk69_B18_64 := vt_ap0 hf69 HB18_64 (by decide)
     have sv68 : Sv 146 [] [(19, _), (18, _), (17, _), (16, _), (15, _), (14, _), (13, _), (12, _), (11, _), (10, _), (9, _), (8, _), (29, _), (30, _), (31, _), (32, _), (33, _), (7, _), (24, _), (25, _), (26, _), (27, _), (4, _), (3, _), (0, _), (1, _), (2, _), (64, _), (65, _), (70, _), (71, _), (77, _), (78, _), (84, _), (85, _), (90, _), (91, _)] a68 := ⟨hn68, hd68, e68_19, e68_18, e68_17, e68_16, e68_15, e68_14, e68_13, e68_12, e68_11, e68_10, e68_9, e68_8, e68_29, e68_30, e68_31, e68_32, e68_33, e68_7, e68_24, e68_25, e68_26, e68_27, e68_4, e68_3, e68_0, e68_1, e68_2, e68_64, e68_65, e68_70, e68_71, e68_77, e68_78, e68_84, e68_85, e68_90q, e68_91, trivial⟩
     refine tl_alloc (T := 58) (Z := ([bv zero32, bv zero32, [.slice none 0 0]].flatten)) sv68 rfl rfl rfl (fun a w => by kernel_rfl) fun a70 w70 B20_70 eq_B20_70 g70 z70 HB20_70 sv70 => ?_
     have ne_B20_70_B3_2 := nb_ne HB3_2 eq_B20_70
     have ne_B20_70_B4_3 := nb_ne HB4_3 eq_B20_70
     have ne_B20_70_B8_33 := nb_ne HB8_33 eq_B20_70
     have ne_B20_70_B10_39 := nb_ne HB10_39 eq_B20_70
     have ne_B20_70_B12_46 := nb_ne HB12_46 eq_B20_70
     have ne_B20_70_B14_52 := nb_ne HB14_52 eq_B20_70
     have ne_B20_70_B16_58 := nb_ne HB16_58 eq_B20_70
     have ne_B20_70_B18_64 := nb_ne HB18_64 eq_B20_70
     have lo_B20_70 := nb_lo HG eq_B20_70
     have ap_hr_B20_70 := nb_ap (hr.lt) eq_B20_70
     have ap_hk45_B20_70 := nb_ap (hk45.lt) eq_B20_70
     have ap_hk51_B20_70 := nb_ap (hk51.lt) eq_B20_70
     have ap_hk57_B20_70 := nb_ap (hk57.lt) eq_B20_70
     have ap_hk63_B20_70 := nb_ap (hk63.lt) eq_B20_70
     have ap_hk69_B20_70 := nb_ap (hk69.lt) eq_B20_70
     replace HB3_2 := rw_kn g70 HB3_2
     replace HB4_3 := rw_kn g70 HB4_3
     replace HB8_33 := rw_kn g70 HB8_33
     replace HB10_39 := rw_kn g70 HB10_39
     replace HB12_46 := rw_kn g70 HB12_46
     replace HB14_52 := rw_kn g70 HB14_52
     replace HB16_58 := rw_kn g70 HB16_58
     replace HB18_64 := rw_kn g70 HB18_64
     replace hr := hr.kn g70
     replace hk45 := hk45.kn g70
     replace hk51 := hk51.kn g70
     replace hk57 := hk57.kn g70
     replace hk63 := hk63.kn g70
     replace hk69 := hk69.kn g70
     replace HG := grown_trans HG g70
     refine tl_sw sv70 r7 (tyVa hdg_r3.1 hdg_r3.2 (.slice ao69 ks69.length cap69) rfl) HB20_70 (by first | rfl | simp [kcells, bv_length, zero32_len, hdg_r3.1.1, hdg_r3.2.1]) fun w71 g71 h71 => ?_
     replace HB3_2 := rw_st g71 HB3_2 (Ne.symm ne_B20_70_B3_2)
     replace HB4_3 := rw_st g71 HB4_3 (Ne.symm ne_B20_70_B4_3)
     replace HB8_33 := rw_st g71 HB8_33 (Ne.symm ne_B20_70_B8_33)
     replace HB10_39 := rw_st g71 HB10_39 (Ne.symm ne_B20_70_B10_39)
     replace HB12_46 := rw_st g71 HB12_46 (Ne.symm ne_B20_70_B12_46)
     replace HB14_52 := rw_st g71 HB14_52 (Ne.symm ne_B20_70_B14_52)
     replace HB16_58 := rw_st g71 HB16_58 (Ne.symm ne_B20_70_B16_58)
     replace HB18_64 := rw_st g71 HB18_64 (Ne.symm ne_B20_70_B18_64)
     replace hr := hr.offR g71 (no_b ap_hr_B20_70)
     replace hk45 := hk45.offR g71 (no_b ap_hk45_B20_70)
     replace hk51 := hk51.offR g71 (no_b ap_hk51_B20_70)
     replace hk57 := hk57.offR g71 (no_b ap_hk57_B20_70)
     replace hk63 := hk63.offR g71 (no_b ap_hk63_B20_70)
     replace hk69 := hk69.offR g71 (no_b ap_hk69_B20_70)
     replace HG := grown_newR HG g71 lo_B20_70
     replace HB20_70 := h71
     refine tl_as (v := .int .i64 r3.2) sv70 r6 fun a72 sv72 => ?_
     refine tl_nil ?_
     refine k67 _ _ ?_
     refine wp_seq_k fun K73 k73 => ?_
     refine wp_region_lit ?_
     refine sx_head (sv72.st w71) 6 [(93, Sp.is (vval sa po (.slice ao ks.length cap))), (94, Sp.is (dval o)), (95, Sp.vt r3 (fpK (.slice ao ks.length cap) ks)), (92, Sp.vt r3 (fpK (.slice ao ks.length cap) ks)), (96, Sp.vv r3.1 (fpK (.slice ao ks.length cap) ks)), (97, Sp.is (.int .i64 r3.2))] rfl (by kernel_rfl) (by kernel_rfl) (by kernel_rfl)
       ⟨yl r6 (tyVa hsa hpo (.slice ao ks.length cap) rfl) HB3_2, yl r6 (tyD o ho.1) HB4_3, ox_call (Sp.vt r3 (fpK (.slice ao ks.length cap) ks)) [vval sa po (.slice ao ks.length cap), dval o] rfl rfl trivial ⟨(oy rfl rfl), (oy rfl rfl), trivial⟩ (rdrp_on hsa hpo ho hr hm h3) (fun _ _ h => h) (enter_of Try.func44 (by kernel_rfl) rfl), ym r5, ox_extract rfl rfl rfl trivial (fun w u h => vt_vault w u h), ox_extract rfl rfl rfl trivial (fun w u h => vt_err w u h), trivial⟩ fun a74 w74 g74 st74 => ?_
     obtain ⟨hn74, hd74, e74_93, e74_94, e74_95, e74_92, e74_96, e74_97, e74_21, e74_20, e74_19, e74_18, e74_17, e74_16, e74_15, e74_14, e74_13, e74_12, e74_11, e74_10, e74_9, e74_8, e74_29, e74_30, e74_31, e74_32, e74_33, e74_7, e74_24, e74_25, e74_26, e74_27, e74_4, e74_3, e74_0, e74_1, e74_2, e74_64, e74_65, e74_70, e74_71, e74_77, e74_78, e74_84, e74_85, e74_90, e74_91, -⟩ := st74
     obtain ⟨ao75, cap75, ks75, e74_96q, hp75, hk75, hf75⟩ := e74_96
     replace HB3_2 := rw_kn g74 HB3_2
     replace HB4_3 := rw_kn g74 HB4_3
     replace HB8_33 := rw_kn g74 HB8_33
     replace HB10_39 := rw_kn g74 HB10_39
     replace HB12_46 := rw_kn g74 HB12_46
     replace HB14_52 := rw_kn g74 HB14_52
     replace HB16_58 := rw_kn g74 HB16_58
     replace HB18_64 := rw_kn g74 HB18_64
     replace HB20_70 := rw_kn g74 HB20_70
     replace hr := hr.kn g74
     replace hk45 := hk45.kn g74
     replace hk51 := hk51.kn g74
     replace hk57 := hk57.kn g74
     replace hk63 := hk63.kn g74
     replace hk69 := hk69.kn g74
     replace HG := grown_trans HG g74
     have ap_hk75_B3_2 := vt_ap1 hf75 ap_hr_B3_2 HB3_2 (by decide)
     have ap_hk75_B4_3 := vt_ap1 hf75 ap_hr_B4_3 HB4_3 (by decide)
     have ap_hk75_B8_33 := vt_ap1 hf75 ap_hr_B8_33 HB8_33 (by decide)
     have ap_hk75_B10_39 := vt_ap1 hf75 ap_hr_B10_39 HB10_39 (by decide)
     have ap_hk75_B12_46 := vt_ap1 hf75 ap_hr_B12_46 HB12_46 (by decide)
     have ap_hk75_B14_52 := vt_ap1 hf75 ap_hr_B14_52 HB14_52 (by decide)
     have ap_hk75_B16_58 := vt_ap1 hf75 ap_hr_B16_58 HB16_58 (by decide)
     have ap_hk75_B18_64 := vt_ap1 hf75 ap_hr_B18_64 HB18_64 (by decide)
     have ap_hk75_B20_70 := vt_ap1 hf75 ap_hr_B20_70 HB20_70 (by decide)
     have sv74 : Sv 146 [] [(21, _), (20, _), (19, _), (18, _), (17, _), (16, _), (15, _), (14, _), (13, _), (12, _), (11, _), (10, _), (9, _), (8, _), (29, _), (30, _), (31, _), (32, _), (33, _), (7, _), (24, _), (25, _), (26, _), (27, _), (4, _), (3, _), (0, _), (1, _), (2, _), (64, _), (65, _), (70, _), (71, _), (77, _), (78, _), (84, _), (85, _), (90, _), (91, _), (96, _), (97, _)] a74 := ⟨hn74, hd74, e74_21, e74_20, e74_19, e74_18, e74_17, e74_16, e74_15, e74_14, e74_13, e74_12, e74_11, e74_10, e74_9, e74_8, e74_29, e74_30, e74_31, e74_32, e74_33, e74_7, e74_24, e74_25, e74_26, e74_27, e74_4, e74_3, e74_0, e74_1, e74_2, e74_64, e74_65, e74_70, e74_71, e74_77, e74_78, e74_84, e74_85, e74_90, e74_91, e74_96q, e74_97, trivial⟩
     refine tl_alloc (T := 58) (Z := ([bv zero32, bv zero32, [.slice none 0 0]].flatten)) sv74 rfl rfl rfl (fun a w => by kernel_rfl) fun a76 w76 B22_76 eq_B22_76 g76 z76 HB22_76 sv76 => ?_
     have ne_B22_76_B3_2 := nb_ne HB3_2 eq_B22_76
     have ne_B22_76_B4_3 := nb_ne HB4_3 eq_B22_76
     have ne_B22_76_B8_33 := nb_ne HB8_33 eq_B22_76
     have ne_B22_76_B10_39 := nb_ne HB10_39 eq_B22_76
     have ne_B22_76_B12_46 := nb_ne HB12_46 eq_B22_76
     have ne_B22_76_B14_52 := nb_ne HB14_52 eq_B22_76
     have ne_B22_76_B16_58 := nb_ne HB16_58 eq_B22_76
     have ne_B22_76_B18_64 := nb_ne HB18_64 eq_B22_76
     have ne_B22_76_B20_70 := nb_ne HB20_70 eq_B22_76
     have lo_B22_76 := nb_lo HG eq_B22_76
     have ap_hr_B22_76 := nb_ap (hr.lt) eq_B22_76
     have ap_hk45_B22_76 := nb_ap (hk45.lt) eq_B22_76
     have ap_hk51_B22_76 := nb_ap (hk51.lt) eq_B22_76
     have ap_hk57_B22_76 := nb_ap (hk57.lt) eq_B22_76
     have ap_hk63_B22_76 := nb_ap (hk63.lt) eq_B22_76
     have ap_hk69_B22_76 := nb_ap (hk69.lt) eq_B22_76
     have ap_hk75_B22_76 := nb_ap (hk75.lt) eq_B22_76
     replace HB3_2 := rw_kn g76 HB3_2
     replace HB4_3 := rw_kn g76 HB4_3
     replace HB8_33 := rw_kn g76 HB8_33
     replace HB10_39 := rw_kn g76 HB10_39
     replace HB12_46 := rw_kn g76 HB12_46
     replace HB14_52 := rw_kn g76 HB14_52
     replace HB16_58 := rw_kn g76 HB16_58
     replace HB18_64 := rw_kn g76 HB18_64
     replace HB20_70 := rw_kn g76 HB20_70
     replace hr := hr.kn g76
     replace hk45 := hk45.kn g76
     replace hk51 := hk51.kn g76
     replace hk57 := hk57.kn g76
     replace hk63 := hk63.kn g76
     replace hk69 := hk69.kn g76
     replace hk75 := hk75.kn g76
     replace HG := grown_trans HG g76
     refine tl_sw sv76 r7 (tyVa hdg_r3.1 hdg_r3.2 (.slice ao75 ks75.length cap75) rfl) HB22_76 (by first | rfl | simp [kcells, bv_length, zero32_len, hdg_r3.1.1, hdg_r3.2.1]) fun w77 g77 h77 => ?_
     replace HB3_2 := rw_st g77 HB3_2 (Ne.symm ne_B22_76_B3_2)
     replace HB4_3 := rw_st g77 HB4_3 (Ne.symm ne_B22_76_B4_3)
     replace HB8_33 := rw_st g77 HB8_33 (Ne.symm ne_B22_76_B8_33)
     replace HB10_39 := rw_st g77 HB10_39 (Ne.symm ne_B22_76_B10_39)
     replace HB12_46 := rw_st g77 HB12_46 (Ne.symm ne_B22_76_B12_46)
     replace HB14_52 := rw_st g77 HB14_52 (Ne.symm ne_B22_76_B14_52)
     replace HB16_58 := rw_st g77 HB16_58 (Ne.symm ne_B22_76_B16_58)
     replace HB18_64 := rw_st g77 HB18_64 (Ne.symm ne_B22_76_B18_64)
     replace HB20_70 := rw_st g77 HB20_70 (Ne.symm ne_B22_76_B20_70)
     replace hr := hr.offR g77 (no_b ap_hr_B22_76)
     replace hk45 := hk45.offR g77 (no_b ap_hk45_B22_76)
     replace hk51 := hk51.offR g77 (no_b ap_hk51_B22_76)
     replace hk57 := hk57.offR g77 (no_b ap_hk57_B22_76)
     replace hk63 := hk63.offR g77 (no_b ap_hk63_B22_76)
     replace hk69 := hk69.offR g77 (no_b ap_hk69_B22_76)
     replace hk75 := hk75.offR g77 (no_b ap_hk75_B22_76)
     replace HG := grown_newR HG g77 lo_B22_76
     replace HB22_76 := h77
     refine tl_as (v := .int .i64 r3.2) sv76 r6 fun a78 sv78 => ?_
     refine tl_nil ?_
     refine k73 _ _ ?_
     refine wp_seq_k fun K79 k79 => ?_
     refine rx_av sv78 [(98, vval sa po (.slice ao ks.length cap)), (99, Value.bool (vldV P)), (100, vval sa po (.slice ao ks.length cap)), (101, Value.bool (vldV P)), (102, Value.bool true), (103, Value.bool true), (104, dval q.1), (105, dval q.1), (106, Value.bool true), (107, Value.bool true), (108, Value.bool true), (109, Value.int .i64 q.2), (110, Value.int .i64 q.2), (111, Value.bool true), (112, Value.bool true), (113, Value.bool true), (114, vval r1.1.2.1 r1.1.2.2 (.slice ao45 ks45.length cap45)), (115, vval r1.1.2.1 r1.1.2.2 (.slice ao51 ks51.length cap51)), (116, Value.bool true), (117, Value.bool true), (118, Value.bool true), (119, Value.int .i64 r1.2), (120, Value.int .i64 r1.2), (121, Value.bool true), (122, Value.bool true), (123, Value.bool true), (124, vval r2.1.2.1 r2.1.2.2 (.slice ao57 ks57.length cap57)), (125, vval r2.1.2.1 r2.1.2.2 (.slice ao63 ks63.length cap63)), (126, Value.bool true), (127, Value.bool true), (128, Value.bool true), (129, Value.int .i64 r2.2), (130, Value.int .i64 r2.2), (131, Value.bool true), (132, Value.bool true), (133, Value.bool true), (134, vval r3.1.2.1 r3.1.2.2 (.slice ao69 ks69.length cap69)), (135, vval r3.1.2.1 r3.1.2.2 (.slice ao75 ks75.length cap75)), (136, Value.bool true), (137, Value.bool true), (138, Value.bool true), (139, Value.int .i64 r3.2), (140, Value.int .i64 r3.2), (141, Value.bool true), (142, Value.bool true), (143, Value.bool true), (144, Value.bool true), (145, Value.bool true), (6, Value.bool true)]
       ⟨yl r6 (tyVa hsa hpo (.slice ao ks.length cap) rfl) HB3_2, ox_call (Sp.is (.bool (vldV P))) [vval sa po (.slice ao ks.length cap)] rfl rfl trivial ⟨(oy rfl rfl), trivial⟩ (is_on fun W g => vvalid_P hsa hpo (hr.kn g) hm rfl) (fun _ _ h => h) (enter_of Try.func45 (by kernel_rfl) rfl), yl r6 (tyVa hsa hpo (.slice ao ks.length cap) rfl) HB3_2, ox_call (Sp.is (.bool (vldV P))) [vval sa po (.slice ao ks.length cap)] rfl rfl trivial ⟨(oy rfl rfl), trivial⟩ (is_on fun W g => rvvalid_P hsa hpo (hr.kn g) hm rfl) (fun _ _ h => h) (enter_of Try.func46 (by kernel_rfl) rfl), ybt r7 (fun _ => rn_eqlB (by simp)), ym r5, ox_load rfl rfl (gy rfl rfl rfl) (oy rfl rfl) (fun _ g => loadsAt (tyD q.1 hqd.1) (rangeAt_row (row_of g HB8_33 (by simp)))) (fun _ => rfl), ox_load rfl rfl (gy rfl rfl rfl) (oy rfl rfl) (fun _ g => loadsAt (tyD q.1 hqd.1) (rangeAt_row (row_of g HB10_39 (by simp)))) (fun _ => rfl), ox_bin rfl rfl (gy rfl rfl rfl) (oy rfl rfl) (oy rfl rfl) (fun _ => by simpa using (dig_eqb hqd hqd _ _ _).1) (fun _ => rfl), ox_pick rfl rfl trivial (oy rfl rfl) (oy rfl rfl) (fun _ => rfl), ym r5, ox_move 9 109 (.inl rfl) rfl rfl (gy rfl rfl rfl) (fun _ _ h => h), ox_move 11 110 (.inl rfl) rfl rfl (gy rfl rfl rfl) (fun _ _ h => h), ox_bin rfl rfl (gy rfl rfl rfl) (oy rfl rfl) (oy rfl rfl) (fun _ => rn_eql (by simp)) (fun _ => rfl), ox_pick rfl rfl trivial (oy rfl rfl) (oy rfl rfl) (fun _ => rfl), ym r5, ox_load rfl rfl (gy rfl rfl rfl) (oy rfl rfl) (fun _ g => loadsAt (tyVa hdg_r1.1 hdg_r1.2 (.slice ao45 ks45.length cap45) rfl) (rangeAt_row (row_of g HB12_46 (by simp)))) (fun _ => rfl), ox_load rfl rfl (gy rfl rfl rfl) (oy rfl rfl) (fun _ g => loadsAt (tyVa hdg_r1.1 hdg_r1.2 (.slice ao51 ks51.length cap51) rfl) (rangeAt_row (row_of g HB14_52 (by simp)))) (fun _ => rfl), ox_call (Sp.is (.bool true)) [vval r1.1.2.1 r1.1.2.2 (.slice ao45 ks45.length cap45), vval r1.1.2.1 r1.1.2.2 (.slice ao51 ks51.length cap51)] rfl rfl (gy rfl rfl rfl) ⟨(oy rfl rfl), (oy rfl rfl), trivial⟩ (is_on fun W g => samev_walk ks45 ks51 _ _ _ _ _ _ hdg_r1.1 hdg_r1.2 (hp45.trans hp51.symm) W (hk45.kn g) (hk51.kn g)) (fun _ _ h => h) (enter_of Try.func38 (by kernel_rfl) rfl), ox_pick rfl rfl trivial (oy rfl rfl) (oy rfl rfl) (fun _ => rfl), ym r5, ox_move 13 119 (.inl rfl) rfl rfl (gy rfl rfl rfl) (fun _ _ h => h), ox_move 15 120 (.inl rfl) rfl rfl (gy rfl rfl rfl) (fun _ _ h => h), ox_bin rfl rfl (gy rfl rfl rfl) (oy rfl rfl) (oy rfl rfl) (fun _ => rn_eql (by simp)) (fun _ => rfl), ox_pick rfl rfl trivial (oy rfl rfl) (oy rfl rfl) (fun _ => rfl), ym r5, ox_load rfl rfl (gy rfl rfl rfl) (oy rfl rfl) (fun _ g => loadsAt (tyVa hdg_r2.1 hdg_r2.2 (.slice ao57 ks57.length cap57) rfl) (rangeAt_row (row_of g HB16_58 (by simp)))) (fun _ => rfl), ox_load rfl rfl (gy rfl rfl rfl) (oy rfl rfl) (fun _ g => loadsAt (tyVa hdg_r2.1 hdg_r2.2 (.slice ao63 ks63.length cap63) rfl) (rangeAt_row (row_of g HB18_64 (by simp)))) (fun _ => rfl), ox_call (Sp.is (.bool true)) [vval r2.1.2.1 r2.1.2.2 (.slice ao57 ks57.length cap57), vval r2.1.2.1 r2.1.2.2 (.slice ao63 ks63.length cap63)] rfl rfl (gy rfl rfl rfl) ⟨(oy rfl rfl), (oy rfl rfl), trivial⟩ (is_on fun W g => samev_walk ks57 ks63 _ _ _ _ _ _ hdg_r2.1 hdg_r2.2 (hp57.trans hp63.symm) W (hk57.kn g) (hk63.kn g)) (fun _ _ h => h) (enter_of Try.func38 (by kernel_rfl) rfl), ox_pick rfl rfl trivial (oy rfl rfl) (oy rfl rfl) (fun _ => rfl), ym r5, ox_move 17 129 (.inl rfl) rfl rfl (gy rfl rfl rfl) (fun _ _ h => h), ox_move 19 130 (.inl rfl) rfl rfl (gy rfl rfl rfl) (fun _ _ h => h), ox_bin rfl rfl (gy rfl rfl rfl) (oy rfl rfl) (oy rfl rfl) (fun _ => rn_eql (by simp)) (fun _ => rfl), ox_pick rfl rfl trivial (oy rfl rfl) (oy rfl rfl) (fun _ => rfl), ym r5, ox_load rfl rfl (gy rfl rfl rfl) (oy rfl rfl) (fun _ g => loadsAt (tyVa hdg_r3.1 hdg_r3.2 (.slice ao69 ks69.length cap69) rfl) (rangeAt_row (row_of g HB20_70 (by simp)))) (fun _ => rfl), ox_load rfl rfl (gy rfl rfl rfl) (oy rfl rfl) (fun _ g => loadsAt (tyVa hdg_r3.1 hdg_r3.2 (.slice ao75 ks75.length cap75) rfl) (rangeAt_row (row_of g HB22_76 (by simp)))) (fun _ => rfl), ox_call (Sp.is (.bool true)) [vval r3.1.2.1 r3.1.2.2 (.slice ao69 ks69.length cap69), vval r3.1.2.1 r3.1.2.2 (.slice ao75 ks75.length cap75)] rfl rfl (gy rfl rfl rfl) ⟨(oy rfl rfl), (oy rfl rfl), trivial⟩ (is_on fun W g => samev_walk ks69 ks75 _ _ _ _ _ _ hdg_r3.1 hdg_r3.2 (hp69.trans hp75.symm) W (hk69.kn g) (hk75.kn g)) (fun _ _ h => h) (enter_of Try.func38 (by kernel_rfl) rfl), ox_pick rfl rfl trivial (oy rfl rfl) (oy rfl rfl) (fun _ => rfl), ym r5, ox_move 21 139 (.inl rfl) rfl rfl (gy rfl rfl rfl) (fun _ _ h => h), ox_move 23 140 (.inl rfl) rfl rfl (gy rfl rfl rfl) (fun _ _ h => h), ox_bin rfl rfl (gy rfl rfl rfl) (oy rfl rfl) (oy rfl rfl) (fun _ => rn_eql (by simp)) (fun _ => rfl), ox_pick rfl rfl trivial (oy rfl rfl) (oy rfl rfl) (fun _ => rfl), ym r5, ox_call (Sp.is (.bool true)) [] rfl rfl (gy rfl rfl rfl) trivial (is_on fun W g => awake_walk W) (fun _ _ h => h) (enter_of Try.func19 (by kernel_rfl) rfl), ox_pick rfl rfl trivial (oy rfl rfl) (oy rfl rfl) (fun _ => rfl), ox_move 145 6 (.inr rfl) rfl rfl trivial (fun _ _ h => h), trivial⟩ fun a80 w80 g80 sv80 => ?_
     refine k79 _ _ ?_
     replace HB3_2 := rw_kn g80 HB3_2
     replace HB4_3 := rw_kn g80 HB4_3
     replace HB8_33 := rw_kn g80 HB8_33
     replace HB10_39 := rw_kn g80 HB10_39
     replace HB12_46 := rw_kn g80 HB12_46
     replace HB14_52 := rw_kn g80 HB14_52
     replace HB16_58 := rw_kn g80 HB16_58
     replace HB18_64 := rw_kn g80 HB18_64
     replace HB20_70 := rw_kn g80 HB20_70
     replace HB22_76 := rw_kn g80 HB22_76
     replace hr := hr.kn g80
     replace hk45 := hk45.kn g80
     replace hk51 := hk51.kn g80
     replace hk57 := hk57.kn g80
     replace hk63 := hk63.kn g80
     replace hk69 := hk69.kn g80
     replace hk75 := hk75.kn g80
     replace HG := grown_trans HG g80
     refine wp_ret ?_
     repeat refine then_ret ?_
     refine cx_ret (fn := Try.f13) sv80 (res_tmp (p := 6) Try.results13 sv80 rfl rfl) ?_
     exact ⟨rfl, HG⟩
theorem hno_succ {ks : List VK} {i : Nat} {x : VK} {hi : i < ks.length} (hno : ∀ j (h : j < ks.length), j < i → ¬ 30 < (ks[j]'h).l.length) (hx : ks[i]'hi = x) (h30 : ¬ 30 < (x.l.length : Int)) : ∀ j (h : j < ks.length), j < i + 1 → ¬ 30 < (ks[j]'h).l.length := fun j h hj => by
 by_cases e : j = i
 · subst e; rw [hx]; omega
 · exact hno j h (by omega)
set_option maxRecDepth 100000 in
set_option maxHeartbeats 4000000 in
theorem vraw_big (ks : List VK) (ao : Option Addr) (cap : Nat) (sa po : List Nat) (hsa : Dg sa) (hpo : Dg po) (o : List Nat) (ho : Dg o) (ad : Int) (w : World) (hr : SlB w 33 (.slice ao ks.length cap) ks.length (ks.flatMap kcells)) (hbig : ∃ (j : Nat) (h : j < ks.length), 30 < (ks[j]'h).l.length) :
   Calls Try.prog 13 #[vval sa po (.slice ao ks.length cap), dval o, .int .i64 ad] w fun e w' => e = .returned (.bool true) ∧ w.grownBy w' none := by
 refine cx_enter Try.func13 rfl Try.ntmps13 rfl fun a0 sv0 => ?_
 have HG := World.grownBy.refl w none
 replace sv0 : Sv 146 [] [(0, vval sa po (.slice ao ks.length cap)), (1, dval o), (2, .int .i64 ad)] a0 := sv0
 refine wp_seq_k fun K1 k1 => ?_
 refine wp_region_lit ?_
 refine tl_box sv0 rfl rfl rfl rfl rfl rfl (tyVa hsa hpo (.slice ao ks.length cap) rfl) fun a2 w2 B3_2 eq_B3_2 g2 z2 HB3_2 sv2 => ?_
 have lo_B3_2 := nb_lo HG eq_B3_2
 have ap_hr_B3_2 := nb_ap (hr.lt) eq_B3_2
 replace hr := hr.kn g2
 replace HG := grown_trans HG g2
 refine tl_box sv2 rfl rfl rfl rfl rfl rfl (tyD o ho.1) fun a3 w3 B4_3 eq_B4_3 g3 z3 HB4_3 sv3 => ?_
 have ne_B4_3_B3_2 := nb_ne HB3_2 eq_B4_3
 have lo_B4_3 := nb_lo HG eq_B4_3
 have ap_hr_B4_3 := nb_ap (hr.lt) eq_B4_3
 replace HB3_2 := rw_kn g3 HB3_2
 replace hr := hr.kn g3
 replace HG := grown_trans HG g3
 refine tl_as (v := .bool false) sv3 r6 fun a4 sv4 => ?_
 refine tl_nil ?_
 refine k1 _ _ ?_
 refine wp_seq_k fun K5 k5 => ?_
 refine wp_seq_k fun K6 k6 => ?_
 by_cases hb70 : 70 < (ks.length : Int)
 · refine wp_region_lit ?_
   refine sx_hv sv4 4 [(24, pk B3_2 64), (25, .slice ao ks.length cap), (26, .int .i64 ((ks.length : Nat))), (27, .bool true)]
     ⟨yf r6 (fun _ => by kernel_rfl), yp (i := 2) r6 (tyKs (.slice ao ks.length cap) rfl) HB3_2 rfl (by simp [bv_length, zero32_len, hsa.1, hpo.1]), ox_len (Try.underlying56) rfl rfl trivial (oy rfl rfl) (fun _ => rfl), ybc r6 (fun _ => rn_gtr (decide_eq_true hb70)), trivial⟩ fun a7 w7 g7 sv7 => ?_
   refine tl_nil ?_
   refine k6 _ _ ?_
   refine cx_ifT sv7 rfl rfl ?_
   refine wp_seq_k fun K8 k8 => ?_
   refine wp_region_lit ?_
   replace HB3_2 := rw_kn g7 HB3_2
   replace HB4_3 := rw_kn g7 HB4_3
   replace hr := hr.kn g7
   replace HG := grown_trans HG g7
   refine sx_hv sv7 1 [(28, .bool true)]
     ⟨ox_call (Sp.is (.bool true)) [] rfl rfl trivial trivial (is_on fun W g => awake_walk W) (fun _ _ h => h) (enter_of Try.func19 (by kernel_rfl) rfl), trivial⟩ fun a9 w9 g9 sv9 => ?_
   refine tl_as (v := .bool true) sv9 r6 fun a10 sv10 => ?_
   refine tl_nil ?_
   refine k8 _ _ ?_
   replace HB3_2 := rw_kn g9 HB3_2
   replace HB4_3 := rw_kn g9 HB4_3
   replace hr := hr.kn g9
   replace HG := grown_trans HG g9
   refine wp_ret ?_
   repeat refine then_ret ?_
   refine cx_ret (fn := Try.f13) sv10 (res_tmp (p := 6) Try.results13 sv10 rfl rfl) ?_
   exact ⟨rfl, HG⟩
 · have hlen : (ks.length : Int) ≤ 70 := by omega
   refine wp_region_lit ?_
   refine sx_hv sv4 4 [(24, pk B3_2 64), (25, .slice ao ks.length cap), (26, .int .i64 ((ks.length : Nat))), (27, .bool false)]
     ⟨yf r6 (fun _ => by kernel_rfl), yp (i := 2) r6 (tyKs (.slice ao ks.length cap) rfl) HB3_2 rfl (by simp [bv_length, zero32_len, hsa.1, hpo.1]), ox_len (Try.underlying56) rfl rfl trivial (oy rfl rfl) (fun _ => rfl), ybc r6 (fun _ => rn_gtr (decide_eq_false hb70)), trivial⟩ fun a11 w11 g11 sv11 => ?_
   refine tl_nil ?_
   refine k6 _ _ ?_
   refine cx_ifF sv11 rfl rfl ?_
   refine wp_skip ?_
   refine k5 _ _ ?_
   refine wp_seq_k fun K12 k12 => ?_
   refine wp_seq_k fun K13 k13 => ?_
   refine wp_region_lit ?_
   refine tl_as (v := .int .i64 0) sv11 r6 fun a14 sv14 => ?_
   refine tl_nil ?_
   refine k13 _ _ ?_
   refine cx_block fun Q15 x15 y15 r15 o15 => ?_
   replace HB3_2 := rw_kn g11 HB3_2
   replace HB4_3 := rw_kn g11 HB4_3
   replace hr := hr.kn g11
   replace HG := grown_trans HG g11
   refine wp_loop (fun a w' => ∃ (i : Nat), (i ≤ ks.length) ∧ (∀ j (h : j < ks.length), j < i → ¬ 30 < (ks[j]'h).l.length) ∧ Sv 146 [] [(7, .int .i64 ((i : Int))), (24, pk B3_2 64), (25, .slice ao ks.length cap), (26, .int .i64 ((ks.length : Nat))), (27, .bool false), (4, pt B4_3), (3, pt B3_2), (0, vval sa po (.slice ao ks.length cap)), (1, dval o), (2, .int .i64 ad)] a ∧ w.grownBy w' none ∧ w'.heap[B3_2]? = some (.cells ([bv sa, bv po, [.slice ao ks.length cap]].flatten).toArray 58 (0, 0)) ∧ w'.heap[B4_3]? = some (.cells (bv o).toArray 29 (0, 0)) ∧ SlB w' 33 (.slice ao ks.length cap) ks.length (ks.flatMap kcells)) (fun a _ => (ks.length - intOf (a.tmps.getD 7 undef)).toNat) ⟨0, Nat.zero_le _, fun j h hj => by omega, ⟨sv14.1, sv14.2.1, sv14.2.2.1, sv14.2.2.2.1, sv14.2.2.2.2.1, sv14.2.2.2.2.2.1, sv14.2.2.2.2.2.2.1, sv14.2.2.2.2.2.2.2.2.1, sv14.2.2.2.2.2.2.2.2.2.1, sv14.2.2.2.2.2.2.2.2.2.2.1, sv14.2.2.2.2.2.2.2.2.2.2.2.1, sv14.2.2.2.2.2.2.2.2.2.2.2.2.1, trivial⟩, HG, HB3_2, HB4_3, hr⟩ fun a16 w16 hI16 => ?_
   clear HB3_2
   clear HB4_3
   clear hr
   clear HG
   obtain ⟨i, hin, hno, sv16, HG, HB3_2, HB4_3, hr⟩ := hI16
   refine wp_seq_k fun K17 k17 => ?_
   refine wp_seq_k fun K18 k18 => ?_
   by_cases hi : i < ks.length
   · obtain ⟨x, hx_x⟩ : ∃ x, ks[i]'hi = x := ⟨_, rfl⟩
     refine wp_region_lit ?_
     refine sx_hv sv16 5 [(29, .int .i64 ((i : Int))), (30, pk B3_2 64), (31, .slice ao ks.length cap), (32, .int .i64 ((ks.length : Nat))), (33, .bool true)]
       ⟨ym r5, yf r6 (fun _ => by kernel_rfl), yp (i := 2) r6 (tyKs (.slice ao ks.length cap) rfl) HB3_2 rfl (by simp [bv_length, zero32_len, hsa.1, hpo.1]), ox_len (Try.underlying56) rfl rfl trivial (oy rfl rfl) (fun _ => rfl), ybt r7 (fun _ => rn_lss (decide_eq_true (by omega))), trivial⟩ fun a19 w19 g19 sv19 => ?_
     refine tl_nil ?_
     refine k18 _ _ ?_
     refine cx_ifT sv19 rfl rfl ?_
     refine wp_skip ?_
     refine k17 _ _ ?_
     refine wp_seq_k fun K20 k20 => ?_
     refine cx_block fun Q21 x21 y21 r21 o21 => ?_
     refine wp_seq_k fun K22 k22 => ?_
     replace HB3_2 := rw_kn g19 HB3_2
     replace HB4_3 := rw_kn g19 HB4_3
     replace hr := hr.kn g19
     replace HG := grown_trans HG g19
     by_cases h30 : 30 < (x.l.length : Int)
     · refine wp_region_lit ?_
       refine sx_hv sv19 9 [(36, pk B3_2 64), (37, .slice ao ks.length cap), (38, .int .i64 ((i : Int))), (39, pk ((bO ao)) (oO ao + i * 33)), (40, pk ((bO ao)) (oO ao + i * 33 + 32)), (41, pk ((bO ao)) (oO ao + i * 33 + 32)), (42, VK.s x), (43, .int .i64 ((x.l.length : Nat))), (44, .bool true)]
         ⟨yf r6 (fun _ => by kernel_rfl), yp (i := 2) r6 (tyKs (.slice ao ks.length cap) rfl) HB3_2 rfl (by simp [bv_length, zero32_len, hsa.1, hpo.1]), ym r5, ox_index rfl rfl trivial (oy rfl rfl) (oy rfl rfl) (fun w => ix_sl Try.underlying56 (by kernel_rfl) (hr.1) (by omega) (rfl) w) (fun _ => rfl), yf r6 (fun _ => by kernel_rfl), yf r6 (fun _ => by kernel_rfl), ox_load rfl rfl trivial (oy rfl rfl) (fun _ g => loadsAt (tyNs (VK.s x) rfl) (mid_range (A := bv x.o) (B := [x.s]) (C := []) (key_at (hr.kn g).1 hi hx_x) (by rw [bv_length, x.ho.1]))) (fun _ => rfl), ox_len (Try.underlying32) rfl rfl trivial (oy rfl rfl) (fun _ => rfl), ybc r6 (fun _ => rn_gtr (decide_eq_true h30)), trivial⟩ fun a23 w23 g23 sv23 => ?_
       refine tl_nil ?_
       refine k22 _ _ ?_
       refine cx_ifT sv23 rfl rfl ?_
       refine wp_seq_k fun K24 k24 => ?_
       refine wp_region_lit ?_
       replace HB3_2 := rw_kn g23 HB3_2
       replace HB4_3 := rw_kn g23 HB4_3
       replace hr := hr.kn g23
       replace HG := grown_trans HG g23
       refine sx_hv sv23 1 [(45, .bool true)]
         ⟨ox_call (Sp.is (.bool true)) [] rfl rfl trivial trivial (is_on fun W g => awake_walk W) (fun _ _ h => h) (enter_of Try.func19 (by kernel_rfl) rfl), trivial⟩ fun a25 w25 g25 sv25 => ?_
       refine tl_as (v := .bool true) sv25 r6 fun a26 sv26 => ?_
       refine tl_nil ?_
       refine k24 _ _ ?_
       replace HB3_2 := rw_kn g25 HB3_2
       replace HB4_3 := rw_kn g25 HB4_3
       replace hr := hr.kn g25
       replace HG := grown_trans HG g25
       refine wp_ret ?_
       repeat refine then_ret ?_
       refine r21 _ _ ?_
       repeat refine then_ret ?_
       refine r15 _ _ ?_
       repeat refine then_ret ?_
       refine cx_ret (fn := Try.f13) sv26 (res_tmp (p := 6) Try.results13 sv26 rfl rfl) ?_
       exact ⟨rfl, HG⟩
     · refine wp_region_lit ?_
       refine sx_hv sv19 9 [(36, pk B3_2 64), (37, .slice ao ks.length cap), (38, .int .i64 ((i : Int))), (39, pk ((bO ao)) (oO ao + i * 33)), (40, pk ((bO ao)) (oO ao + i * 33 + 32)), (41, pk ((bO ao)) (oO ao + i * 33 + 32)), (42, VK.s x), (43, .int .i64 ((x.l.length : Nat))), (44, .bool false)]
         ⟨yf r6 (fun _ => by kernel_rfl), yp (i := 2) r6 (tyKs (.slice ao ks.length cap) rfl) HB3_2 rfl (by simp [bv_length, zero32_len, hsa.1, hpo.1]), ym r5, ox_index rfl rfl trivial (oy rfl rfl) (oy rfl rfl) (fun w => ix_sl Try.underlying56 (by kernel_rfl) (hr.1) (by omega) (rfl) w) (fun _ => rfl), yf r6 (fun _ => by kernel_rfl), yf r6 (fun _ => by kernel_rfl), ox_load rfl rfl trivial (oy rfl rfl) (fun _ g => loadsAt (tyNs (VK.s x) rfl) (mid_range (A := bv x.o) (B := [x.s]) (C := []) (key_at (hr.kn g).1 hi hx_x) (by rw [bv_length, x.ho.1]))) (fun _ => rfl), ox_len (Try.underlying32) rfl rfl trivial (oy rfl rfl) (fun _ => rfl), ybc r6 (fun _ => rn_gtr (decide_eq_false h30)), trivial⟩ fun a27 w27 g27 sv27 => ?_
       refine tl_nil ?_
       refine k22 _ _ ?_
       refine cx_ifF sv27 rfl rfl ?_
       refine wp_skip ?_
       refine y21 _ _ ?_
       refine k20 _ _ ?_
       refine wp_region_lit ?_
       refine sx_hv sv27 2 [(34, .int .i64 ((i : Int))), (35, .int .i64 (((i + 1 : Nat) : Int)))]
         ⟨ym r5, ybc r6 (fun _ => rn_add (by rw [wrap_i64 (by omega) (by omega)]; omega)), trivial⟩ fun a28 w28 g28 sv28 => ?_
       have gc28 := grown_trans g27 g28
       refine tl_as (v := .int .i64 (((i + 1 : Nat) : Int))) sv28 r6 fun a29 sv29 => ?_
       refine tl_nil ?_
       replace HB3_2 := rw_kn gc28 HB3_2
       replace HB4_3 := rw_kn gc28 HB4_3
       replace hr := hr.kn gc28
       replace HG := grown_trans HG gc28
       exact ⟨⟨i + 1, by omega, hno_succ hno hx_x h30, ⟨sv29.1, sv29.2.1, sv29.2.2.1, sv29.2.2.2.2.2.2.2.2.2.2.2.2.2.2.2.2.2.2.2.1, sv29.2.2.2.2.2.2.2.2.2.2.2.2.2.2.2.2.2.2.2.2.1, sv29.2.2.2.2.2.2.2.2.2.2.2.2.2.2.2.2.2.2.2.2.2.1, sv29.2.2.2.2.2.2.2.2.2.2.2.2.2.2.2.2.2.2.2.2.2.2.1, sv29.2.2.2.2.2.2.2.2.2.2.2.2.2.2.2.2.2.2.2.2.2.2.2.1, sv29.2.2.2.2.2.2.2.2.2.2.2.2.2.2.2.2.2.2.2.2.2.2.2.2.1, sv29.2.2.2.2.2.2.2.2.2.2.2.2.2.2.2.2.2.2.2.2.2.2.2.2.2.1, sv29.2.2.2.2.2.2.2.2.2.2.2.2.2.2.2.2.2.2.2.2.2.2.2.2.2.2.1, sv29.2.2.2.2.2.2.2.2.2.2.2.2.2.2.2.2.2.2.2.2.2.2.2.2.2.2.2.1, trivial⟩, HG, HB3_2, HB4_3, hr⟩, by rw [show _ = _ from sv29.2.2.1, show _ = _ from sv16.2.2.1]; simp [intOf]; omega⟩
   · obtain ⟨j, h, hb⟩ := hbig
     exact absurd hb (hno j h (by omega))
theorem vraw_all (sa po : List Nat) (hsa : Dg sa) (hpo : Dg po) (s : Value) (ks : List VK) (o : List Nat) (ho : Dg o) (ad : Int) (w : World) (h1 : SlB w 33 s ks.length (ks.flatMap kcells)) (h2 : ∀ x ∈ ks, KOk w x) :
   Calls Try.prog 13 #[vval sa po s, dval o, .int .i64 ad] w fun e w' => e = .returned (.bool true) ∧ w.grownBy w' none := by
 obtain ⟨ao, cap, rfl, _⟩ := h1.1.shape
 by_cases hb : ∃ (j : Nat) (h : j < ks.length), 30 < (ks[j]'h).l.length
 · exact vraw_big ks ao cap sa po hsa hpo o ho ad w h1 hb
 · refine vraw_walk ks ao cap sa po hsa hpo o ho ad w ⟨h1, fun x hx => ⟨(h2 x hx).1, (h2 x hx).2.2, (h2 x hx).2.1, ?_⟩⟩
   obtain ⟨j, hj, rfl⟩ := List.getElem_of_mem hx
   have h30 : ¬ 30 < (ks[j]).l.length := fun h => hb ⟨j, hj, h⟩
   omega
end Go.Proofs.Yteakoleceoclkaa
