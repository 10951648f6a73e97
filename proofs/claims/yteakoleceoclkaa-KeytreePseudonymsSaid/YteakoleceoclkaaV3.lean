/- Vaults: the place of an owner. (printed by gen_v3.py) -/
import Derived.Test.YteakoleceoclkaaV2
namespace Go.Proofs.Yteakoleceoclkaa
open Go.RowKit Go.Shelf
set_option linter.unusedSimpArgs false
set_option linter.unusedVariables false
theorem wrap_uint {x : Int} (h1 : 0 ≤ x) (h2 : x < 18446744073709551616) : IntKind.u64.wrap x = x := by rw [IntKind.wrap_u64]; omega
theorem rn_shr1 {P : Program} {a c : Int} {t : TypeId} {x y : Operand} {w : World} (h : a / 2 = c) : (do eqGuard .shr t x y (.int .u64 a) (.int .u64 1); binOp .shr t (.int .u64 a) (.int .u64 1) : Sem Value).run P w = .ok (.int .u64 c) w := by
 subst h
 have : min 1 IntKind.u64.bits = 1 := by decide
 simp [eqGuard, binOp_shr, shift_shr_any, this]
theorem ret2eq {a b : Int} {p q : Bool} (h1 : a = b) (h2 : p = q) : Ending.returned (.tuple #[.int .i64 a, .bool p]) = Ending.returned (.tuple #[.int .i64 b, .bool q]) := by rw [h1, h2]
theorem fnd_is {ks : List VK} {o : List Nat} {i : Nat} (hp : pos (ks.map VK.p) o = i) (hi : i < ks.length) {x : VK} (hx : ks[i] = x) : decide (x.o = o) = fnd (ks.map VK.p) o := by
 unfold fnd
 rw [hp, od_map hi, hx]
 simp [hi]
theorem fnd_end {ks : List VK} {o : List Nat} (h : ¬ pos (ks.map VK.p) o < ks.length) : false = fnd (ks.map VK.p) o := by
 unfold fnd
 simp at h ⊢
 omega
set_option maxRecDepth 100000 in
set_option maxHeartbeats 4000000 in
theorem bsearch_walk (ks : List VK) (ao : Option Addr) (cap : Nat) (o : List Nat) (ho : Dg o) (w : World) (hr : RdK w (.slice ao ks.length cap) ks) (hs : Srt (ks.map VK.p)) (h64 : ks.length ≤ 64) :
   Calls Try.prog 91 #[.slice ao ks.length cap, dval o, .func (.func 80) #[] #[]] w fun e w' => e = .returned (.tuple #[.int .i64 (pos (ks.map VK.p) o), .bool (fnd (ks.map VK.p) o)]) ∧ w.grownBy w' none := by
 have hlen := hr.len
 have hmap : (ks.map VK.p).length = ks.length := List.length_map _
 refine cx_enter Try.func91 rfl Try.ntmps91 rfl fun a0 sv0 => ?_
 have HG := World.grownBy.refl w none
 replace sv0 : Sv 49 [] [(0, .slice ao ks.length cap), (1, dval o), (2, .func (.func 80) #[] #[])] a0 := sv0
 refine wp_seq_k fun K1 k1 => ?_
 refine wp_region_lit ?_
 refine tl_box sv0 rfl rfl rfl rfl rfl rfl (tyD o ho.1) fun a2 w2 B4_2 eq_B4_2 g2 z2 HB4_2 sv2 => ?_
 have lo_B4_2 := nb_lo HG eq_B4_2
 have ap_hr_B4_2 := nb_ap (hr.lt) eq_B4_2
 replace hr := hr.kn g2
 replace HG := grown_trans HG g2
 refine tl_as (v := .int .i64 0) sv2 r6 fun a3 sv3 => ?_
 refine tl_as (v := .bool false) sv3 r6 fun a4 sv4 => ?_
 refine tl_nil ?_
 refine k1 _ _ ?_
 refine wp_seq_k fun K5 k5 => ?_
 refine wp_region_lit ?_
 refine sx_hv sv4 2 [(12, .slice ao ks.length cap), (13, .int .i64 ((ks.length : Nat)))]
   ⟨ym r5, ox_len (Try.underlying56) rfl rfl trivial (oy rfl rfl) (fun _ => rfl), trivial⟩ fun a6 w6 g6 sv6 => ?_
 refine tl_as (v := .int .i64 ((ks.length : Nat))) sv6 r6 fun a7 sv7 => ?_
 refine tl_nil ?_
 refine k5 _ _ ?_
 refine wp_seq_k fun K8 k8 => ?_
 refine wp_region_lit ?_
 refine sx_hv sv7 1 [(14, .int .i64 ((ks.length : Nat)))]
   ⟨ym r5, trivial⟩ fun a9 w9 g9 sv9 => ?_
 have gc9 := grown_trans g6 g9
 refine tl_as (v := .int .i64 0) sv9 r6 fun a10 sv10 => ?_
 refine tl_as (v := .int .i64 ((ks.length : Nat))) sv10 r6 fun a11 sv11 => ?_
 refine tl_nil ?_
 refine k8 _ _ ?_
 refine wp_seq_k fun K12 k12 => ?_
 refine cx_block fun Q13 x13 y13 r13 o13 => ?_
 replace HB4_2 := rw_kn gc9 HB4_2
 replace hr := hr.kn gc9
 replace HG := grown_trans HG gc9
 refine wp_loop (fun a w' => ∃ (i : Nat) (j : Nat), (i ≤ j) ∧ (j ≤ ks.length) ∧ (∀ k, k < i → blt (od (ks.map VK.p) k) o = true) ∧ (∀ k, j ≤ k → k < ks.length → blt (od (ks.map VK.p) k) o = false) ∧ Sv 49 [] [(9, .int .i64 ((i : Int))), (10, .int .i64 ((j : Int))), (14, .int .i64 ((ks.length : Nat))), (8, .int .i64 ((ks.length : Nat))), (12, .slice ao ks.length cap), (13, .int .i64 ((ks.length : Nat))), (7, .bool false), (6, .int .i64 0), (4, pt B4_2), (0, .slice ao ks.length cap), (1, dval o), (2, .func (.func 80) #[] #[])] a ∧ w.grownBy w' none ∧ w'.heap[B4_2]? = some (.cells (bv o).toArray 29 (0, 0)) ∧ RdK w' (.slice ao ks.length cap) ks) (fun a _ => (intOf (a.tmps.getD 10 undef) - intOf (a.tmps.getD 9 undef)).toNat) ⟨0, ks.length, Nat.zero_le _, Nat.le_refl _, fun k hk => by omega, fun k h1 h2 => by omega, ⟨sv11.1, sv11.2.1, sv11.2.2.2.1, sv11.2.2.1, sv11.2.2.2.2.1, sv11.2.2.2.2.2.1, sv11.2.2.2.2.2.2.1, sv11.2.2.2.2.2.2.2.1, sv11.2.2.2.2.2.2.2.2.1, sv11.2.2.2.2.2.2.2.2.2.1, sv11.2.2.2.2.2.2.2.2.2.2.1, sv11.2.2.2.2.2.2.2.2.2.2.2.1, sv11.2.2.2.2.2.2.2.2.2.2.2.2.1, sv11.2.2.2.2.2.2.2.2.2.2.2.2.2.1, trivial⟩, HG, HB4_2, hr⟩ fun a14 w14 hI14 => ?_
 clear HB4_2
 clear hr
 clear HG
 obtain ⟨i, j, hij, hjn, hb, ha, sv14, HG, HB4_2, hr⟩ := hI14
 refine wp_seq_k fun K15 k15 => ?_
 refine wp_seq_k fun K16 k16 => ?_
 by_cases hlt : i < j
 · obtain ⟨m, hm⟩ : ∃ m, m = (i + j) / 2 := ⟨_, rfl⟩
   have hmi : i ≤ m ∧ m < j ∧ m < ks.length := by omega
   have hm3 := hmi.2.2
   obtain ⟨x, hx_x⟩ : ∃ x, ks[m]'hm3 = x := ⟨_, rfl⟩
   have hod : od (ks.map VK.p) m = x.o := by rw [od_map hm3, hx_x]
   refine wp_region_lit ?_
   refine sx_hv sv14 3 [(15, .int .i64 ((i : Int))), (16, .int .i64 ((j : Int))), (17, .bool true)]
     ⟨ym r5, ym r5, ybt r7 (fun _ => rn_lss (by simp; omega)), trivial⟩ fun a17 w17 g17 sv17 => ?_
   refine tl_nil ?_
   refine k16 _ _ ?_
   refine cx_ifT sv17 rfl rfl ?_
   refine wp_skip ?_
   refine k15 _ _ ?_
   refine cx_block fun Q18 x18 y18 r18 o18 => ?_
   refine wp_seq_k fun K19 k19 => ?_
   refine wp_region_lit ?_
   refine sx_hv sv17 6 [(18, .int .i64 ((i : Int))), (19, .int .i64 ((j : Int))), (20, .int .i64 (((i + j : Nat) : Int))), (21, .int .u64 (((i + j : Nat) : Int))), (22, .int .u64 ((m : Int))), (23, .int .i64 ((m : Int)))]
     ⟨ym r5, ym r5, ybt r7 (fun _ => rn_add (by rw [wrap_i64 (by omega) (by omega)]; omega)), ox_conv rfl rfl trivial (oy rfl rfl) (fun _ => rn_conv Try.underlying3 Try.underlying45 (wrap_uint (by omega) (by omega))) (fun _ => rfl), ybc r6 (fun _ => rn_shr1 (by omega)), ox_conv rfl rfl trivial (oy rfl rfl) (fun _ => rn_conv Try.underlying45 Try.underlying3 (wrap_i64 (by omega) (by omega))) (fun _ => rfl), trivial⟩ fun a20 w20 g20 sv20 => ?_
   have gc20 := grown_trans g17 g20
   refine tl_as (v := .int .i64 ((m : Int))) sv20 r6 fun a21 sv21 => ?_
   have sv22 : Sv 49 [] [(11, _), (15, _), (16, _), (17, _), (9, _), (10, _), (14, _), (8, _), (12, _), (13, _), (7, _), (6, _), (4, _), (0, _), (1, _), (2, _)] a21 := sv21.dl [18, 19, 20, 21, 22, 23]
   refine tl_nil ?_
   refine k19 _ _ ?_
   refine wp_seq_k fun K23 k23 => ?_
   replace HB4_2 := rw_kn gc20 HB4_2
   replace hr := hr.kn gc20
   replace HG := grown_trans HG gc20
   by_cases hc : blt x.o o = true
   · refine rx_av sv22 [(24, .func (.func 80) #[] #[]), (25, .slice ao ks.length cap), (26, .int .i64 ((m : Int))), (27, pk ((bO ao)) (oO ao + m * 33)), (28, kval x), (29, dval o), (30, .int .i64 ((bcmp x.o o))), (31, .bool true)]
       ⟨ym r5, ym r5, ym r5, ox_index rfl rfl trivial (oy rfl rfl) (oy rfl rfl) (fun w => ix_sl Try.underlying56 (by kernel_rfl) (hr.1.1) (by omega) (rfl) w) (fun _ => rfl), ox_load rfl rfl trivial (oy rfl rfl) (fun _ g => loadsAt (tyK x) (RdK.keyX (hr.kn g) rfl hm3 hx_x)) (fun _ => rfl), yl r6 (tyD o ho.1) HB4_2, ox_callV (Sp.is (.int .i64 ((bcmp x.o o)))) [kval x, dval o] rfl rfl trivial (oy rfl rfl) ⟨(oy rfl rfl), (oy rfl rfl), trivial⟩ (is_on fun W g => cmpo_walk x o ho W) (fun _ _ h => h) (enter_of Try.func80 (by kernel_rfl) rfl), ybc r6 (fun _ => rn_lss (by rw [bcmp_lt, hc])), trivial⟩ fun a24 w24 g24 sv24 => ?_
     refine k23 _ _ ?_
     refine cx_ifT sv24 rfl rfl ?_
     refine wp_region_lit ?_
     refine sx_hv sv24 2 [(32, .int .i64 ((m : Int))), (33, .int .i64 (((m + 1 : Nat) : Int)))]
       ⟨ym r5, ybc r6 (fun _ => rn_add (by rw [wrap_i64 (by omega) (by omega)]; omega)), trivial⟩ fun a25 w25 g25 sv25 => ?_
     have gc25 := grown_trans g24 g25
     refine tl_as (v := .int .i64 (((m + 1 : Nat) : Int))) sv25 r6 fun a26 sv26 => ?_
     refine tl_nil ?_
     refine y18 _ _ ?_
     replace HB4_2 := rw_kn gc25 HB4_2
     replace hr := hr.kn gc25
     replace HG := grown_trans HG gc25
     exact ⟨⟨m + 1, j, by omega, by omega, fun k hk => if e : k = m then (by rw [e, hod, hc]) else blt_trans (hs.lt (i := k) (j := m) (by omega) (by rw [hmap]; omega)) (hod.symm ▸ hc), ha, ⟨sv26.1, sv26.2.1, sv26.2.2.1, sv26.2.2.2.2.2.2.2.2.2.2.2.2.2.2.2.2.2.1, sv26.2.2.2.2.2.2.2.2.2.2.2.2.2.2.2.2.2.2.1, sv26.2.2.2.2.2.2.2.2.2.2.2.2.2.2.2.2.2.2.2.1, sv26.2.2.2.2.2.2.2.2.2.2.2.2.2.2.2.2.2.2.2.2.1, sv26.2.2.2.2.2.2.2.2.2.2.2.2.2.2.2.2.2.2.2.2.2.1, sv26.2.2.2.2.2.2.2.2.2.2.2.2.2.2.2.2.2.2.2.2.2.2.1, sv26.2.2.2.2.2.2.2.2.2.2.2.2.2.2.2.2.2.2.2.2.2.2.2.1, sv26.2.2.2.2.2.2.2.2.2.2.2.2.2.2.2.2.2.2.2.2.2.2.2.2.1, sv26.2.2.2.2.2.2.2.2.2.2.2.2.2.2.2.2.2.2.2.2.2.2.2.2.2.1, sv26.2.2.2.2.2.2.2.2.2.2.2.2.2.2.2.2.2.2.2.2.2.2.2.2.2.2.1, sv26.2.2.2.2.2.2.2.2.2.2.2.2.2.2.2.2.2.2.2.2.2.2.2.2.2.2.2.1, trivial⟩, HG, HB4_2, hr⟩, by rw [show _ = _ from sv26.2.2.1, show _ = _ from sv26.2.2.2.2.2.2.2.2.2.2.2.2.2.2.2.2.2.1, show _ = _ from sv14.2.2.1, show _ = _ from sv14.2.2.2.1]; simp [intOf]; omega⟩
   · refine rx_av sv22 [(24, .func (.func 80) #[] #[]), (25, .slice ao ks.length cap), (26, .int .i64 ((m : Int))), (27, pk ((bO ao)) (oO ao + m * 33)), (28, kval x), (29, dval o), (30, .int .i64 ((bcmp x.o o))), (31, .bool false)]
       ⟨ym r5, ym r5, ym r5, ox_index rfl rfl trivial (oy rfl rfl) (oy rfl rfl) (fun w => ix_sl Try.underlying56 (by kernel_rfl) (hr.1.1) (by omega) (rfl) w) (fun _ => rfl), ox_load rfl rfl trivial (oy rfl rfl) (fun _ g => loadsAt (tyK x) (RdK.keyX (hr.kn g) rfl hm3 hx_x)) (fun _ => rfl), yl r6 (tyD o ho.1) HB4_2, ox_callV (Sp.is (.int .i64 ((bcmp x.o o)))) [kval x, dval o] rfl rfl trivial (oy rfl rfl) ⟨(oy rfl rfl), (oy rfl rfl), trivial⟩ (is_on fun W g => cmpo_walk x o ho W) (fun _ _ h => h) (enter_of Try.func80 (by kernel_rfl) rfl), ybc r6 (fun _ => rn_lss (by rw [bcmp_lt]; simpa using hc)), trivial⟩ fun a27 w27 g27 sv27 => ?_
     refine k23 _ _ ?_
     refine cx_ifF sv27 rfl rfl ?_
     refine wp_region_lit ?_
     refine sx_hv sv27 1 [(34, .int .i64 ((m : Int)))]
       ⟨ym r5, trivial⟩ fun a28 w28 g28 sv28 => ?_
     have gc28 := grown_trans g27 g28
     refine tl_as (v := .int .i64 ((m : Int))) sv28 r6 fun a29 sv29 => ?_
     refine tl_nil ?_
     refine y18 _ _ ?_
     replace HB4_2 := rw_kn gc28 HB4_2
     replace hr := hr.kn gc28
     replace HG := grown_trans HG gc28
     exact ⟨⟨i, m, by omega, by omega, hb, fun k h1 h2 => if e : k = m then (by rw [e, hod]; simpa using hc) else Bool.eq_false_iff.2 fun hh => hc (hod ▸ blt_trans (hs.lt (i := m) (j := k) (by omega) (by rw [hmap]; omega)) hh), ⟨sv29.1, sv29.2.1, sv29.2.2.2.2.2.2.2.2.2.2.2.2.2.2.2.2.1, sv29.2.2.1, sv29.2.2.2.2.2.2.2.2.2.2.2.2.2.2.2.2.2.1, sv29.2.2.2.2.2.2.2.2.2.2.2.2.2.2.2.2.2.2.1, sv29.2.2.2.2.2.2.2.2.2.2.2.2.2.2.2.2.2.2.2.1, sv29.2.2.2.2.2.2.2.2.2.2.2.2.2.2.2.2.2.2.2.2.1, sv29.2.2.2.2.2.2.2.2.2.2.2.2.2.2.2.2.2.2.2.2.2.1, sv29.2.2.2.2.2.2.2.2.2.2.2.2.2.2.2.2.2.2.2.2.2.2.1, sv29.2.2.2.2.2.2.2.2.2.2.2.2.2.2.2.2.2.2.2.2.2.2.2.1, sv29.2.2.2.2.2.2.2.2.2.2.2.2.2.2.2.2.2.2.2.2.2.2.2.2.1, sv29.2.2.2.2.2.2.2.2.2.2.2.2.2.2.2.2.2.2.2.2.2.2.2.2.2.1, sv29.2.2.2.2.2.2.2.2.2.2.2.2.2.2.2.2.2.2.2.2.2.2.2.2.2.2.1, trivial⟩, HG, HB4_2, hr⟩, by rw [show _ = _ from sv29.2.2.2.2.2.2.2.2.2.2.2.2.2.2.2.2.1, show _ = _ from sv29.2.2.1, show _ = _ from sv14.2.2.1, show _ = _ from sv14.2.2.2.1]; simp [intOf]; omega⟩
 · have hie : i = j := by omega
   have hpos : pos (ks.map VK.p) o = i := pos_uniq (by omega) hb fun h => ha i (by omega) (by omega)
   refine wp_region_lit ?_
   refine sx_hv sv14 3 [(15, .int .i64 ((i : Int))), (16, .int .i64 ((j : Int))), (17, .bool false)]
     ⟨ym r5, ym r5, ybt r7 (fun _ => rn_lss (by simp; omega)), trivial⟩ fun a30 w30 g30 sv30 => ?_
   refine tl_nil ?_
   refine k16 _ _ ?_
   refine cx_ifF sv30 rfl rfl ?_
   refine wp_exit ?_
   repeat refine then_exit ?_
   refine x13 _ _ ?_
   refine k12 _ _ ?_
   refine wp_seq_k fun K31 k31 => ?_
   replace HB4_2 := rw_kn g30 HB4_2
   replace hr := hr.kn g30
   replace HG := grown_trans HG g30
   by_cases hin : i < ks.length
   · obtain ⟨y, hx_y⟩ : ∃ x, ks[i]'hin = x := ⟨_, rfl⟩
     refine rx_av (sv30.dl [7, 6]) [(35, .int .i64 ((i : Int))), (36, .int .i64 ((i : Int))), (37, .int .i64 ((ks.length : Nat))), (38, .bool true), (39, .bool true), (40, .func (.func 80) #[] #[]), (41, .slice ao ks.length cap), (42, .int .i64 ((i : Int))), (43, pk ((bO ao)) (oO ao + i * 33)), (44, kval y), (45, dval o), (46, .int .i64 ((bcmp y.o o))), (47, .bool (decide (y.o = o))), (48, .bool (decide (y.o = o))), (6, .int .i64 ((i : Int))), (7, .bool (decide (y.o = o)))]
       ⟨ym r5, ym r5, ym r5, ybt r7 (fun _ => rn_lss (by simp; omega)), ym r5, ox_move 2 40 (.inl rfl) rfl rfl (gy rfl rfl rfl) (fun _ _ h => h), ox_move 0 41 (.inl rfl) rfl rfl (gy rfl rfl rfl) (fun _ _ h => h), ox_move 9 42 (.inl rfl) rfl rfl (gy rfl rfl rfl) (fun _ _ h => h), ox_index rfl rfl (gy rfl rfl rfl) (oy rfl rfl) (oy rfl rfl) (fun w => ix_sl Try.underlying56 (by kernel_rfl) (hr.1.1) (by omega) (rfl) w) (fun _ => rfl), ox_load rfl rfl (gy rfl rfl rfl) (oy rfl rfl) (fun _ g => loadsAt (tyK y) (RdK.keyX (hr.kn g) rfl hin hx_y)) (fun _ => rfl), ox_load rfl rfl (gy rfl rfl rfl) (oy rfl rfl) (fun _ g => loadsAt (tyD o ho.1) (rangeAt_row (row_of g HB4_2 (by simp)))) (fun _ => rfl), ox_callV (Sp.is (.int .i64 ((bcmp y.o o)))) [kval y, dval o] rfl rfl (gy rfl rfl rfl) (oy rfl rfl) ⟨(oy rfl rfl), (oy rfl rfl), trivial⟩ (is_on fun W g => cmpo_walk y o ho W) (fun _ _ h => h) (enter_of Try.func80 (by kernel_rfl) rfl), ox_bin rfl rfl (gy rfl rfl rfl) (oy rfl rfl) rfl (fun _ => rn_eql bcmp_eq) (fun _ => rfl), ox_pick rfl rfl trivial (oy rfl rfl) (oy rfl rfl) (fun _ => rfl), ox_move 35 6 (.inr rfl) rfl rfl trivial (fun _ _ h => h), ox_move 48 7 (.inr rfl) rfl rfl trivial (fun _ _ h => h), trivial⟩ fun a32 w32 g32 sv32 => ?_
     refine k31 _ _ ?_
     replace HB4_2 := rw_kn g32 HB4_2
     replace hr := hr.kn g32
     replace HG := grown_trans HG g32
     refine wp_ret ?_
     repeat refine then_ret ?_
     refine cx_ret (fn := Try.f91) sv32 (res_tmp2 (p := 6) (q := 7) Try.results91 sv32 rfl rfl rfl rfl) ?_
     exact ⟨ret2eq (by rw [hpos]) (fnd_is hpos hin hx_y), HG⟩
   · refine rx_av (sv30.dl [7, 6]) [(35, .int .i64 ((i : Int))), (36, .int .i64 ((i : Int))), (37, .int .i64 ((ks.length : Nat))), (38, .bool false), (39, .bool false), (40, undef), (41, undef), (42, undef), (43, undef), (44, undef), (45, undef), (46, undef), (47, undef), (48, .bool false), (6, .int .i64 ((i : Int))), (7, .bool false)]
       ⟨ym r5, ym r5, ym r5, ybt r7 (fun _ => rn_lss (by simp; omega)), ym r5, ox_off (gn rfl rfl rfl) rfl (fun _ => rfl), ox_off (gn rfl rfl rfl) rfl (fun _ => rfl), ox_off (gn rfl rfl rfl) rfl (fun _ => rfl), ox_off (gn rfl rfl rfl) rfl (fun _ => rfl), ox_off (gn rfl rfl rfl) rfl (fun _ => rfl), ox_off (gn rfl rfl rfl) rfl (fun _ => rfl), ox_off (gn rfl rfl rfl) rfl (fun _ => rfl), ox_off (gn rfl rfl rfl) rfl (fun _ => rfl), ox_pick rfl rfl trivial (oy rfl rfl) rfl (fun _ => rfl), ox_move 35 6 (.inr rfl) rfl rfl trivial (fun _ _ h => h), ox_move 48 7 (.inr rfl) rfl rfl trivial (fun _ _ h => h), trivial⟩ fun a33 w33 g33 sv33 => ?_
     refine k31 _ _ ?_
     replace HB4_2 := rw_kn g33 HB4_2
     replace hr := hr.kn g33
     replace HG := grown_trans HG g33
     refine wp_ret ?_
     repeat refine then_ret ?_
     refine cx_ret (fn := Try.f91) sv33 (res_tmp2 (p := 6) (q := 7) Try.results91 sv33 rfl rfl rfl rfl) ?_
     exact ⟨ret2eq (by rw [hpos]) (fnd_end (by rw [hpos]; exact hin)), HG⟩
end Go.Proofs.Yteakoleceoclkaa
