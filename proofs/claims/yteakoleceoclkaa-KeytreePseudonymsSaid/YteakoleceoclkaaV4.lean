/- Vaults: find, at, valid vaults. (printed by gen_v4.py) -/
import Derived.Test.YteakoleceoclkaaV3
namespace Go.Proofs.Yteakoleceoclkaa
open Go.RowKit Go.Shelf
set_option linter.unusedSimpArgs false
set_option linter.unusedVariables false
theorem inv_of {P : Program} {f : Nat} {fn : Func} {c : Code} (hf : P.funcs[f]? = some fn) (hname : (fn.name == "runtime.NumGoroutine") = false) (hb : fn.body = some c) (cap : Array Value) (w : World) :
   (invoke (.fn (.func f) cap) #[]).run P w = .ok (.enter f cap) w := by
 have h1 : fn.name ≠ "runtime.NumGoroutine" := by simpa using hname
 simp [invoke, callFunc, hf, h1, hb]
set_option maxRecDepth 100000 in
theorem recNewVault_walk (w : World) : CallsD Try.prog 66 #[] .returning w fun e u' w' => e = .returned (.tuple #[]) ∧ u' = .returning ∧ w' = w := by
 refine callsD_of_wpS Try.func66 rfl fun c₀ cs hu => ?_
 apply wpS_region
 simp [wpOpsS, go_sem, recoverD, hu, Try.ntmps66]
 cases c₀
 simp_all [bodyPostS, results, Try.results66]
set_option maxRecDepth 100000 in
theorem recValidVault_walk (w : World) : CallsD Try.prog 79 #[] .returning w fun e u' w' => e = .returned (.tuple #[]) ∧ u' = .returning ∧ w' = w := by
 refine callsD_of_wpS Try.func79 rfl fun c₀ cs hu => ?_
 apply wpS_region
 simp [wpOpsS, go_sem, recoverD, hu, Try.ntmps79]
 cases c₀
 simp_all [bodyPostS, results, Try.results79]
set_option maxRecDepth 100000 in
theorem recPseud_walk (w : World) : CallsD Try.prog 81 #[] .returning w fun e u' w' => e = .returned (.tuple #[]) ∧ u' = .returning ∧ w' = w := by
 refine callsD_of_wpS Try.func81 rfl fun c₀ cs hu => ?_
 apply wpS_region
 simp [wpOpsS, go_sem, recoverD, hu, Try.ntmps81]
 cases c₀
 simp_all [bodyPostS, results, Try.results81]
set_option maxRecDepth 100000 in
theorem recEnsure_walk (p q : Value) (w : World) : CallsD Try.prog 68 #[p, q] .returning w fun e u' w' => e = .returned (.tuple #[]) ∧ u' = .returning ∧ w' = w := by
 refine callsD_of_wpS Try.func68 rfl fun c₀ cs hu => ?_
 apply wpS_seq
 apply wpS_region
 simp [wpOpsS, go_sem, recoverD, hu, Try.ntmps68, Exit.thenS]
 refine wpS_cond (t := false) (by simp [Act.eval, Array.replicate]) ?_
 simp only [Bool.false_eq_true, if_false]
 refine wpS_of_wp (wp_skip ?_)
 cases c₀
 simp_all [bodyPostS, results, Try.results68]
theorem valid_callB {w : World} {s : Value} {l : List Nd} {b : Bool} (hb : vld l = b) (h : RdT w s l) : Calls Try.prog 27 #[.agg #[s]] w fun e w' => e = .returned (.bool b) ∧ w.grownBy w' none := hb ▸ valid_call h
theorem retB {a b : Bool} (h : a = b) : Ending.returned (.bool a) = Ending.returned (.bool b) := by rw [h]
theorem RdK.kt {w : World} {v : Value} {ks : List VK} (h : RdK w v ks) {j : Nat} (hj : j < ks.length) {x : VK} (hx : ks[j] = x) : RdT w x.s x.l := h.2 x (hx ▸ List.getElem_mem hj)
theorem chk_i {ks : List VK} {i : Nat} {x y : VK} (hi : i < ks.length) (hp : i - 1 < ks.length) (hx : ks[i] = x) (hy : ks[i - 1] = y) : chk (ks.map VK.p) i = ((decide (i = 0) || blt y.o x.o) && vld x.l) := by
 unfold chk
 rw [od_map hi, od_map hp, tr_map hi, hx, hy]
set_option maxRecDepth 100000 in
set_option maxHeartbeats 4000000 in
theorem find_walk (ks : List VK) (ao : Option Addr) (cap : Nat) (sa po : List Nat) (hsa : Dg sa) (hpo : Dg po) (o : List Nat) (ho : Dg o) (w : World) (hr : RdK w (.slice ao ks.length cap) ks) (hs : Srt (ks.map VK.p)) (h64 : ks.length ≤ 64) :
   Calls Try.prog 70 #[vval sa po (.slice ao ks.length cap), dval o] w fun e w' => e = .returned (.tuple #[.int .i64 (pos (ks.map VK.p) o), .bool (fnd (ks.map VK.p) o)]) ∧ w.grownBy w' none := by
 refine cx_enter Try.func70 rfl Try.ntmps70 rfl fun a0 sv0 => ?_
 have HG := World.grownBy.refl w none
 replace sv0 : Sv 12 [] [(0, vval sa po (.slice ao ks.length cap)), (1, dval o)] a0 := sv0
 refine wp_seq_k fun K1 k1 => ?_
 refine wp_region_lit ?_
 refine tl_box sv0 rfl rfl rfl rfl rfl rfl (tyVa hsa hpo (.slice ao ks.length cap) rfl) fun a2 w2 B2_2 eq_B2_2 g2 z2 HB2_2 sv2 => ?_
 have lo_B2_2 := nb_lo HG eq_B2_2
 have ap_hr_B2_2 := nb_ap (hr.lt) eq_B2_2
 replace hr := hr.kn g2
 replace HG := grown_trans HG g2
 refine tl_box sv2 rfl rfl rfl rfl rfl rfl (tyD o ho.1) fun a3 w3 B3_3 eq_B3_3 g3 z3 HB3_3 sv3 => ?_
 have ne_B3_3_B2_2 := nb_ne HB2_2 eq_B3_3
 have lo_B3_3 := nb_lo HG eq_B3_3
 have ap_hr_B3_3 := nb_ap (hr.lt) eq_B3_3
 replace HB2_2 := rw_kn g3 HB2_2
 replace hr := hr.kn g3
 replace HG := grown_trans HG g3
 refine tl_as (v := .int .i64 0) sv3 r6 fun a4 sv4 => ?_
 refine tl_as (v := .bool false) sv4 r6 fun a5 sv5 => ?_
 refine tl_nil ?_
 refine k1 _ _ ?_
 refine wp_seq_k fun K6 k6 => ?_
 refine wp_region_lit ?_
 refine sx_hv sv5 6 [(6, pk B2_2 64), (7, .slice ao ks.length cap), (8, dval o), (9, .tuple #[.int .i64 ((pos (ks.map VK.p) o : Int)), .bool (fnd (ks.map VK.p) o)]), (10, .int .i64 ((pos (ks.map VK.p) o : Int))), (11, .bool (fnd (ks.map VK.p) o))]
   ⟨yf r6 (fun _ => by kernel_rfl), yp (i := 2) r6 (tyKs (.slice ao ks.length cap) rfl) HB2_2 rfl (by simp [bv_length, zero32_len, hsa.1, hpo.1]), yl r6 (tyD o ho.1) HB3_3, ox_call (Sp.is (.tuple #[.int .i64 ((pos (ks.map VK.p) o : Int)), .bool (fnd (ks.map VK.p) o)])) [.slice ao ks.length cap, dval o, .func (.func 80) #[] #[]] rfl rfl trivial ⟨(oy rfl rfl), (oy rfl rfl), rfl, trivial⟩ (is_on fun W g => bsearch_walk ks ao cap o ho W (hr.kn g) hs h64) (fun _ _ h => h) (enter_of Try.func91 (by kernel_rfl) rfl), ox_extract rfl rfl rfl trivial (fun _ _ h => ⟨_, _, h, rfl, rfl⟩), ox_extract rfl rfl rfl trivial (fun _ _ h => ⟨_, _, h, rfl, rfl⟩), trivial⟩ fun a7 w7 g7 sv7 => ?_
 refine tl_as (v := .int .i64 ((pos (ks.map VK.p) o : Int))) sv7 r6 fun a8 sv8 => ?_
 refine tl_as (v := .bool (fnd (ks.map VK.p) o)) sv8 r6 fun a9 sv9 => ?_
 have sv10 : Sv 12 [] [(5, _), (4, _), (0, _), (1, _)] a9 := sv9.dl [6, 7, 8, 9, 10, 11, 3, 2]
 refine tl_nil ?_
 refine k6 _ _ ?_
 replace HB2_2 := rw_kn g7 HB2_2
 replace HB3_3 := rw_kn g7 HB3_3
 replace hr := hr.kn g7
 replace HG := grown_trans HG g7
 refine wp_ret ?_
 repeat refine then_ret ?_
 refine cx_ret (fn := Try.f70) sv10 (res_tmp2 (p := 4) (q := 5) Try.results70 sv10 rfl rfl rfl rfl) ?_
 exact ⟨rfl, HG⟩
set_option maxRecDepth 100000 in
set_option maxHeartbeats 4000000 in
theorem vvalid_walk (ks : List VK) (ao : Option Addr) (cap : Nat) (sa po : List Nat) (hsa : Dg sa) (hpo : Dg po) (w : World) (hr : RdK w (.slice ao ks.length cap) ks) :
   Calls Try.prog 45 #[vval sa po (.slice ao ks.length cap)] w fun e w' => e = .returned (.bool (vldV (ks.map VK.p))) ∧ w.grownBy w' none := by
 have hlen := hr.len
 have hmap : (ks.map VK.p).length = ks.length := List.length_map _
 refine cx_enterD Try.func45 rfl Try.ntmps45 rfl fun a0 sv0 => ?_
 have HG := World.grownBy.refl w none
 replace sv0 : Sv 38 [] [(0, vval sa po (.slice ao ks.length cap))] a0 := sv0
 refine wp_seq_k fun K1 k1 => ?_
 refine wp_region_lit ?_
 refine tl_box sv0 rfl rfl rfl rfl rfl rfl (tyVa hsa hpo (.slice ao ks.length cap) rfl) fun a2 w2 B1_2 eq_B1_2 g2 z2 HB1_2 sv2 => ?_
 have lo_B1_2 := nb_lo HG eq_B1_2
 have ap_hr_B1_2 := nb_ap (hr.lt) eq_B1_2
 replace hr := hr.kn g2
 replace HG := grown_trans HG g2
 refine tl_as (v := .bool false) sv2 r6 fun a3 sv3 => ?_
 refine tl_nil ?_
 refine k1 _ _ ?_
 refine wp_seq_k fun K4 k4 => ?_
 refine wp_region_lit ?_
 refine tl_defer sv3 rfl (dd := { target := .fn (.func 79) #[], args := #[] }) rfl (by simp [execOp, resolve, Deferred.ofValue]; try rfl) fun a5 sv5 => ?_
 refine tl_nil ?_
 refine k4 _ _ ?_
 refine wp_seq_k fun K6 k6 => ?_
 refine wp_seq_k fun K7 k7 => ?_
 by_cases hbig : 64 < ks.length
 · refine wp_region_lit ?_
   refine sx_hv sv5 4 [(5, pk B1_2 64), (6, .slice ao ks.length cap), (7, .int .i64 ((ks.length : Nat))), (8, .bool true)]
     ⟨yf r6 (fun _ => by kernel_rfl), yp (i := 2) r6 (tyKs (.slice ao ks.length cap) rfl) HB1_2 rfl (by simp [bv_length, zero32_len, hsa.1, hpo.1]), ox_len (Try.underlying56) rfl rfl trivial (oy rfl rfl) (fun _ => rfl), ybc r6 (fun _ => rn_gtr (by simp; omega)), trivial⟩ fun a8 w8 g8 sv8 => ?_
   refine tl_nil ?_
   refine k7 _ _ ?_
   refine cx_ifT sv8 rfl rfl ?_
   refine wp_seq_k fun K9 k9 => ?_
   refine wp_region_lit ?_
   refine tl_as (v := .bool false) sv8 r6 fun a10 sv10 => ?_
   refine tl_nil ?_
   refine k9 _ _ ?_
   replace HB1_2 := rw_kn g8 HB1_2
   replace hr := hr.kn g8
   replace HG := grown_trans HG g8
   refine wp_ret ?_
   repeat refine then_ret ?_
   refine cx_retD (fn := Try.f45) sv10 (res_tmp (p := 2) Try.results45 sv10 rfl rfl) (inv_of Try.func79 (by kernel_rfl) rfl _ _) (recValidVault_walk _) ?_
   exact ⟨retB ((vldV_big (by omega)).symm), HG⟩
 · refine wp_region_lit ?_
   refine sx_hv sv5 4 [(5, pk B1_2 64), (6, .slice ao ks.length cap), (7, .int .i64 ((ks.length : Nat))), (8, .bool false)]
     ⟨yf r6 (fun _ => by kernel_rfl), yp (i := 2) r6 (tyKs (.slice ao ks.length cap) rfl) HB1_2 rfl (by simp [bv_length, zero32_len, hsa.1, hpo.1]), ox_len (Try.underlying56) rfl rfl trivial (oy rfl rfl) (fun _ => rfl), ybc r6 (fun _ => rn_gtr (by simp; omega)), trivial⟩ fun a11 w11 g11 sv11 => ?_
   refine tl_nil ?_
   refine k7 _ _ ?_
   refine cx_ifF sv11 rfl rfl ?_
   refine wp_skip ?_
   refine k6 _ _ ?_
   refine wp_seq_k fun K12 k12 => ?_
   refine wp_seq_k fun K13 k13 => ?_
   refine wp_region_lit ?_
   refine sx_hv sv11 4 [(9, pk B1_2 64), (10, .slice ao ks.length cap), (11, .int .i64 ((ks.length : Nat))), (12, .int .i64 0)]
     ⟨yf r6 (fun _ => by kernel_rfl), yp (i := 2) r6 (tyKs (.slice ao ks.length cap) rfl) (rw_kn g11 HB1_2) rfl (by simp [bv_length, zero32_len, hsa.1, hpo.1]), ox_len (Try.underlying56) rfl rfl trivial (oy rfl rfl) (fun _ => rfl), ox_const (.inl rfl) rfl trivial (fun _ => rfl), trivial⟩ fun a14 w14 g14 sv14 => ?_
   have gc14 := grown_trans g11 g14
   refine tl_nil ?_
   refine k13 _ _ ?_
   refine cx_block fun Q15 x15 y15 r15 o15 => ?_
   replace HB1_2 := rw_kn gc14 HB1_2
   replace hr := hr.kn gc14
   replace HG := grown_trans HG gc14
   refine wp_loop (fun a w' => ∃ (i : Nat), (i ≤ ks.length) ∧ (∀ k, k < i → chk (ks.map VK.p) k = true) ∧ Sv 38 [{ target := .fn (.func 79) #[], args := #[] }] [(12, .int .i64 ((i : Int))), (9, pk B1_2 64), (10, .slice ao ks.length cap), (11, .int .i64 ((ks.length : Nat))), (5, pk B1_2 64), (6, .slice ao ks.length cap), (7, .int .i64 ((ks.length : Nat))), (8, .bool false), (1, pt B1_2), (0, vval sa po (.slice ao ks.length cap))] a ∧ w.grownBy w' none ∧ w'.heap[B1_2]? = some (.cells ([bv sa, bv po, [.slice ao ks.length cap]].flatten).toArray 58 (0, 0)) ∧ RdK w' (.slice ao ks.length cap) ks) (fun a _ => (ks.length - intOf (a.tmps.getD 12 undef)).toNat) ⟨0, Nat.zero_le _, fun k hk => by omega, ⟨sv14.1, sv14.2.1, sv14.2.2.2.2.2.1, sv14.2.2.1, sv14.2.2.2.1, sv14.2.2.2.2.1, sv14.2.2.2.2.2.2.1, sv14.2.2.2.2.2.2.2.1, sv14.2.2.2.2.2.2.2.2.1, sv14.2.2.2.2.2.2.2.2.2.1, sv14.2.2.2.2.2.2.2.2.2.2.2.1, sv14.2.2.2.2.2.2.2.2.2.2.2.2.1, trivial⟩, HG, HB1_2, hr⟩ fun a16 w16 hI16 => ?_
   clear HB1_2
   clear hr
   clear HG
   obtain ⟨i, hin, hb, sv16, HG, HB1_2, hr⟩ := hI16
   refine wp_seq_k fun K17 k17 => ?_
   by_cases hi : i < ks.length
   · have hp : i - 1 < ks.length := by omega
     obtain ⟨x, hx_x⟩ : ∃ x, ks[i]'hi = x := ⟨_, rfl⟩
     obtain ⟨y, hx_y⟩ : ∃ x, ks[(i - 1)]'hp = x := ⟨_, rfl⟩
     have hchk := chk_i hi hp hx_x hx_y
     refine wp_region_lit ?_
     refine sx_hv sv16 1 [(13, .bool true)]
       ⟨ybt r7 (fun _ => rn_lss (by simp; omega)), trivial⟩ fun a18 w18 g18 sv18 => ?_
     refine tl_nil ?_
     refine k17 _ _ ?_
     refine wp_seq_k fun K19 k19 => ?_
     refine cx_ifT sv18 rfl rfl ?_
     refine wp_skip ?_
     refine k19 _ _ ?_
     refine wp_seq_k fun K20 k20 => ?_
     refine cx_block fun Q21 x21 y21 r21 o21 => ?_
     refine wp_seq_k fun K22 k22 => ?_
     refine wp_region_lit ?_
     replace HB1_2 := rw_kn g18 HB1_2
     replace hr := hr.kn g18
     replace HG := grown_trans HG g18
     refine sx_hv sv18 3 [(14, .int .i64 ((i : Int))), (15, pk ((bO ao)) (oO ao + i * 33)), (16, kval x)]
       ⟨ym r5, ox_index rfl rfl trivial (oy rfl rfl) (oy rfl rfl) (fun w => ix_sl Try.underlying56 (by kernel_rfl) (hr.1.1) (by omega) (rfl) w) (fun _ => rfl), ox_load rfl rfl trivial (oy rfl rfl) (fun _ g => loadsAt (tyK x) (RdK.keyX (hr.kn g) rfl hi hx_x)) (fun _ => rfl), trivial⟩ fun a23 w23 g23 sv23 => ?_
     replace HB1_2 := rw_kn g23 HB1_2
     replace hr := hr.kn g23
     replace HG := grown_trans HG g23
     refine tl_alloc (T := 65) (Z := ([bv zero32, [.slice none 0 0]].flatten)) sv23 rfl rfl rfl (fun a w => by kernel_rfl) fun a24 w24 B4_24 eq_B4_24 g24 z24 HB4_24 sv24 => ?_
     have ne_B4_24_B1_2 := nb_ne HB1_2 eq_B4_24
     have lo_B4_24 := nb_lo HG eq_B4_24
     have ap_hr_B4_24 := nb_ap (hr.lt) eq_B4_24
     replace HB1_2 := rw_kn g24 HB1_2
     replace hr := hr.kn g24
     replace HG := grown_trans HG g24
     refine tl_as (v := .int .i64 ((i : Int))) sv24 r6 fun a25 sv25 => ?_
     refine tl_sw sv25 r7 (tyK x) HB4_24 (by first | rfl | simp [kcells, bv_length, zero32_len, x.ho.1]) fun w26 g26 h26 => ?_
     replace HB1_2 := rw_st g26 HB1_2 (Ne.symm ne_B4_24_B1_2)
     replace hr := hr.offR g26 (no_b ap_hr_B4_24)
     replace HG := grown_newR HG g26 lo_B4_24
     replace HB4_24 := h26
     refine tl_nil ?_
     refine k22 _ _ ?_
     refine wp_seq_k fun K27 k27 => ?_
     rcases (show (i = 0 ∧ vld x.l = true) ∨ (i = 0 ∧ vld x.l = false) ∨ (0 < i ∧ blt y.o x.o = true ∧ vld x.l = true) ∨ (0 < i ∧ blt y.o x.o = true ∧ vld x.l = false) ∨ (0 < i ∧ blt y.o x.o = false ∧ vld x.l = true) ∨ (0 < i ∧ blt y.o x.o = false ∧ vld x.l = false) by
         rcases Nat.eq_zero_or_pos i with h | h <;> cases h2 : vld x.l <;> cases h3 : blt y.o x.o <;> simp [h]) with ⟨hz, hv⟩ | ⟨hz, hv⟩ | ⟨hz, hc, hv⟩ | ⟨hz, hc, hv⟩ | ⟨hz, hc, hv⟩ | ⟨hz, hc, hv⟩
     · have hok : ((decide (i = 0) || blt y.o x.o) && vld x.l) = true := by simp [hz, hv]
       refine rx_av sv25 [(17, .int .i64 ((i : Int))), (18, .bool false), (19, .bool false), (20, undef), (21, undef), (22, undef), (23, undef), (24, undef), (25, undef), (26, undef), (27, undef), (28, undef), (29, undef), (30, .bool false), (31, .bool false), (32, pk B4_24 32), (33, .agg #[VK.s x]), (34, .bool true), (35, .bool false), (36, .bool false)]
         ⟨ym r5, ybc r6 (fun _ => rn_gtr (by simp; omega)), ym r5, ox_off (gn rfl rfl rfl) rfl (fun _ => rfl), ox_off (gn rfl rfl rfl) rfl (fun _ => rfl), ox_off (gn rfl rfl rfl) rfl (fun _ => rfl), ox_off (gn rfl rfl rfl) rfl (fun _ => rfl), ox_off (gn rfl rfl rfl) rfl (fun _ => rfl), ox_off (gn rfl rfl rfl) rfl (fun _ => rfl), ox_off (gn rfl rfl rfl) rfl (fun _ => rfl), ox_off (gn rfl rfl rfl) rfl (fun _ => rfl), ox_off (gn rfl rfl rfl) rfl (fun _ => rfl), ox_off (gn rfl rfl rfl) rfl (fun _ => rfl), ox_pick rfl rfl trivial (oy rfl rfl) rfl (fun _ => rfl), ym r5, ox_field rfl rfl (gy rfl rfl rfl) (oy rfl rfl) (fun _ => by kernel_rfl) (fun _ => rfl), ox_load rfl rfl (gy rfl rfl rfl) (oy rfl rfl) (fun _ g => loadsAt (tyT (VK.s x) rfl) (range_part (L := [bv x.o, [VK.s x]]) (i := 1) (row_of g HB4_24 (by simp)) rfl (by simp [bv_length, zero32_len, x.ho.1]))) (fun _ => rfl), ox_call (Sp.is (.bool true)) [.agg #[VK.s x]] rfl rfl (gy rfl rfl rfl) ⟨(oy rfl rfl), trivial⟩ (is_on fun W g => valid_callB hv ((hr.kn g).kt hi hx_x)) (fun _ _ h => h) (enter_of Try.func27 (by kernel_rfl) rfl), ox_un rfl rfl (gy rfl rfl rfl) (oy rfl rfl) (fun _ => rn_not) (fun _ => rfl), ox_pick rfl rfl trivial (oy rfl rfl) (oy rfl rfl) (fun _ => rfl), trivial⟩ fun a28 w28 g28 sv28 => ?_
       refine k27 _ _ ?_
       refine cx_ifF sv28 rfl rfl ?_
       refine wp_skip ?_
       refine y21 _ _ ?_
       refine k20 _ _ ?_
       refine wp_region_lit ?_
       refine sx_hv sv28 1 [(37, .int .i64 (((i + 1 : Nat) : Int)))]
         ⟨ybc r6 (fun _ => rn_add (by rw [wrap_i64 (by omega) (by omega)]; omega)), trivial⟩ fun a29 w29 g29 sv29 => ?_
       have gc29 := grown_trans g28 g29
       refine sx_hv (sv29.dl [12]) 1 [(12, .int .i64 (((i + 1 : Nat) : Int)))]
         ⟨ym r5, trivial⟩ fun a30 w30 g30 sv30 => ?_
       have gc30 := grown_trans gc29 g30
       refine tl_nil ?_
       replace HB1_2 := rw_kn gc30 HB1_2
       replace HB4_24 := rw_kn gc30 HB4_24
       replace hr := hr.kn gc30
       replace HG := grown_trans HG gc30
       exact ⟨⟨i + 1, by omega, fun k hk => if e : k = i then (by rw [e, hchk]; exact hok) else hb k (by omega), ⟨sv30.1, sv30.2.1, sv30.2.2.1, sv30.2.2.2.2.2.2.2.2.2.2.2.2.2.2.2.2.2.2.2.2.2.2.2.2.2.2.2.2.2.2.1, sv30.2.2.2.2.2.2.2.2.2.2.2.2.2.2.2.2.2.2.2.2.2.2.2.2.2.2.2.2.2.2.2.1, sv30.2.2.2.2.2.2.2.2.2.2.2.2.2.2.2.2.2.2.2.2.2.2.2.2.2.2.2.2.2.2.2.2.1, sv30.2.2.2.2.2.2.2.2.2.2.2.2.2.2.2.2.2.2.2.2.2.2.2.2.2.2.2.2.2.2.2.2.2.1, sv30.2.2.2.2.2.2.2.2.2.2.2.2.2.2.2.2.2.2.2.2.2.2.2.2.2.2.2.2.2.2.2.2.2.2.1, sv30.2.2.2.2.2.2.2.2.2.2.2.2.2.2.2.2.2.2.2.2.2.2.2.2.2.2.2.2.2.2.2.2.2.2.2.1, sv30.2.2.2.2.2.2.2.2.2.2.2.2.2.2.2.2.2.2.2.2.2.2.2.2.2.2.2.2.2.2.2.2.2.2.2.2.1, sv30.2.2.2.2.2.2.2.2.2.2.2.2.2.2.2.2.2.2.2.2.2.2.2.2.2.2.2.2.2.2.2.2.2.2.2.2.2.1, sv30.2.2.2.2.2.2.2.2.2.2.2.2.2.2.2.2.2.2.2.2.2.2.2.2.2.2.2.2.2.2.2.2.2.2.2.2.2.2.1, trivial⟩, HG, HB1_2, hr⟩, by rw [show _ = _ from sv30.2.2.1, show _ = _ from sv16.2.2.1]; simp [intOf]; omega⟩
     · refine rx_av sv25 [(17, .int .i64 ((i : Int))), (18, .bool false), (19, .bool false), (20, undef), (21, undef), (22, undef), (23, undef), (24, undef), (25, undef), (26, undef), (27, undef), (28, undef), (29, undef), (30, .bool false), (31, .bool false), (32, pk B4_24 32), (33, .agg #[VK.s x]), (34, .bool false), (35, .bool true), (36, .bool true)]
         ⟨ym r5, ybc r6 (fun _ => rn_gtr (by simp; omega)), ym r5, ox_off (gn rfl rfl rfl) rfl (fun _ => rfl), ox_off (gn rfl rfl rfl) rfl (fun _ => rfl), ox_off (gn rfl rfl rfl) rfl (fun _ => rfl), ox_off (gn rfl rfl rfl) rfl (fun _ => rfl), ox_off (gn rfl rfl rfl) rfl (fun _ => rfl), ox_off (gn rfl rfl rfl) rfl (fun _ => rfl), ox_off (gn rfl rfl rfl) rfl (fun _ => rfl), ox_off (gn rfl rfl rfl) rfl (fun _ => rfl), ox_off (gn rfl rfl rfl) rfl (fun _ => rfl), ox_off (gn rfl rfl rfl) rfl (fun _ => rfl), ox_pick rfl rfl trivial (oy rfl rfl) rfl (fun _ => rfl), ym r5, ox_field rfl rfl (gy rfl rfl rfl) (oy rfl rfl) (fun _ => by kernel_rfl) (fun _ => rfl), ox_load rfl rfl (gy rfl rfl rfl) (oy rfl rfl) (fun _ g => loadsAt (tyT (VK.s x) rfl) (range_part (L := [bv x.o, [VK.s x]]) (i := 1) (row_of g HB4_24 (by simp)) rfl (by simp [bv_length, zero32_len, x.ho.1]))) (fun _ => rfl), ox_call (Sp.is (.bool false)) [.agg #[VK.s x]] rfl rfl (gy rfl rfl rfl) ⟨(oy rfl rfl), trivial⟩ (is_on fun W g => valid_callB hv ((hr.kn g).kt hi hx_x)) (fun _ _ h => h) (enter_of Try.func27 (by kernel_rfl) rfl), ox_un rfl rfl (gy rfl rfl rfl) (oy rfl rfl) (fun _ => rn_not) (fun _ => rfl), ox_pick rfl rfl trivial (oy rfl rfl) (oy rfl rfl) (fun _ => rfl), trivial⟩ fun a31 w31 g31 sv31 => ?_
       refine k27 _ _ ?_
       refine cx_ifT sv31 rfl rfl ?_
       refine wp_seq_k fun K32 k32 => ?_
       refine wp_region_lit ?_
       refine tl_as (v := .bool false) sv31 r6 fun a33 sv33 => ?_
       refine tl_nil ?_
       refine k32 _ _ ?_
       replace HB1_2 := rw_kn g31 HB1_2
       replace HB4_24 := rw_kn g31 HB4_24
       replace hr := hr.kn g31
       replace HG := grown_trans HG g31
       refine wp_ret ?_
       repeat refine then_ret ?_
       refine r21 _ _ ?_
       repeat refine then_ret ?_
       refine r15 _ _ ?_
       repeat refine then_ret ?_
       refine cx_retD (fn := Try.f45) sv33 (res_tmp (p := 2) Try.results45 sv33 rfl rfl) (inv_of Try.func79 (by kernel_rfl) rfl _ _) (recValidVault_walk _) ?_
       exact ⟨retB ((vldV_no (i := i) (by rw [hmap]; exact hi) (by rw [hchk]; simp [hv])).symm), HG⟩
     · have hok : ((decide (i = 0) || blt y.o x.o) && vld x.l) = true := by simp [hz, hv, hc]
       refine rx_av sv25 [(17, .int .i64 ((i : Int))), (18, .bool true), (19, .bool true), (20, pk B1_2 64), (21, .slice ao ks.length cap), (22, .int .i64 ((i : Int))), (23, .int .i64 (((i - 1 : Nat) : Int))), (24, pk ((bO ao)) (oO ao + (i - 1) * 33)), (25, kval y), (26, pt B4_24), (27, dval x.o), (28, .int .i64 ((bcmp y.o x.o))), (29, .bool false), (30, .bool false), (31, .bool false), (32, pk B4_24 32), (33, .agg #[VK.s x]), (34, .bool true), (35, .bool false), (36, .bool false)]
         ⟨ym r5, ybc r6 (fun _ => rn_gtr (by simp; omega)), ym r5, ox_field rfl rfl (gy rfl rfl rfl) (oy rfl rfl) (fun _ => by kernel_rfl) (fun _ => rfl), ox_load rfl rfl (gy rfl rfl rfl) (oy rfl rfl) (fun _ g => loadsAt (tyKs (.slice ao ks.length cap) rfl) (range_part (L := [bv sa, bv po, [.slice ao ks.length cap]]) (i := 2) (row_of g HB1_2 (by simp)) rfl (by simp [bv_length, zero32_len, hsa.1, hpo.1]))) (fun _ => rfl), ox_move 3 22 (.inl rfl) rfl rfl (gy rfl rfl rfl) (fun _ _ h => h), ox_bin rfl rfl (gy rfl rfl rfl) (oy rfl rfl) rfl (fun _ => rn_sub (by rw [wrap_i64 (by omega) (by omega)]; omega)) (fun _ => rfl), ox_index rfl rfl (gy rfl rfl rfl) (oy rfl rfl) (oy rfl rfl) (fun w => ix_sl Try.underlying56 (by kernel_rfl) (hr.1.1) (by omega) (rfl) w) (fun _ => rfl), ox_load rfl rfl (gy rfl rfl rfl) (oy rfl rfl) (fun _ g => loadsAt (tyK y) (RdK.keyX (hr.kn g) rfl hp hx_y)) (fun _ => rfl), ox_field rfl rfl (gy rfl rfl rfl) (oy rfl rfl) (fun _ => by kernel_rfl) (fun _ => rfl), ox_load rfl rfl (gy rfl rfl rfl) (oy rfl rfl) (fun _ g => loadsAt (tyD x.o x.ho.1) (range_part (L := [bv x.o, [VK.s x]]) (i := 0) (row_of g HB4_24 (by simp)) rfl rfl)) (fun _ => rfl), ox_call (Sp.is (.int .i64 ((bcmp y.o x.o)))) [kval y, dval x.o] rfl rfl (gy rfl rfl rfl) ⟨(oy rfl rfl), (oy rfl rfl), trivial⟩ (is_on fun W g => cmpo_walk y x.o x.ho W) (fun _ _ h => h) (enter_of Try.func80 (by kernel_rfl) rfl), ox_bin rfl rfl (gy rfl rfl rfl) (oy rfl rfl) rfl (fun _ => rn_geq (by rw [bcmp_ge, hc]; rfl)) (fun _ => rfl), ox_pick rfl rfl trivial (oy rfl rfl) (oy rfl rfl) (fun _ => rfl), ym r5, ox_field rfl rfl (gy rfl rfl rfl) (oy rfl rfl) (fun _ => by kernel_rfl) (fun _ => rfl), ox_load rfl rfl (gy rfl rfl rfl) (oy rfl rfl) (fun _ g => loadsAt (tyT (VK.s x) rfl) (range_part (L := [bv x.o, [VK.s x]]) (i := 1) (row_of g HB4_24 (by simp)) rfl (by simp [bv_length, zero32_len, x.ho.1]))) (fun _ => rfl), ox_call (Sp.is (.bool true)) [.agg #[VK.s x]] rfl rfl (gy rfl rfl rfl) ⟨(oy rfl rfl), trivial⟩ (is_on fun W g => valid_callB hv ((hr.kn g).kt hi hx_x)) (fun _ _ h => h) (enter_of Try.func27 (by kernel_rfl) rfl), ox_un rfl rfl (gy rfl rfl rfl) (oy rfl rfl) (fun _ => rn_not) (fun _ => rfl), ox_pick rfl rfl trivial (oy rfl rfl) (oy rfl rfl) (fun _ => rfl), trivial⟩ fun a34 w34 g34 sv34 => ?_
       refine k27 _ _ ?_
       refine cx_ifF sv34 rfl rfl ?_
       refine wp_skip ?_
       refine y21 _ _ ?_
       refine k20 _ _ ?_
       refine wp_region_lit ?_
       refine sx_hv sv34 1 [(37, .int .i64 (((i + 1 : Nat) : Int)))]
         ⟨ybc r6 (fun _ => rn_add (by rw [wrap_i64 (by omega) (by omega)]; omega)), trivial⟩ fun a35 w35 g35 sv35 => ?_
       have gc35 := grown_trans g34 g35
       refine sx_hv (sv35.dl [12]) 1 [(12, .int .i64 (((i + 1 : Nat) : Int)))]
         ⟨ym r5, trivial⟩ fun a36 w36 g36 sv36 => ?_
       have gc36 := grown_trans gc35 g36
       refine tl_nil ?_
       replace HB1_2 := rw_kn gc36 HB1_2
       replace HB4_24 := rw_kn gc36 HB4_24
       replace hr := hr.kn gc36
       replace HG := grown_trans HG gc36
       exact ⟨⟨i + 1, by omega, fun k hk => if e : k = i then (by rw [e, hchk]; exact hok) else hb k (by omega), ⟨sv36.1, sv36.2.1, sv36.2.2.1, sv36.2.2.2.2.2.2.2.2.2.2.2.2.2.2.2.2.2.2.2.2.2.2.2.2.2.2.2.2.2.2.1, sv36.2.2.2.2.2.2.2.2.2.2.2.2.2.2.2.2.2.2.2.2.2.2.2.2.2.2.2.2.2.2.2.1, sv36.2.2.2.2.2.2.2.2.2.2.2.2.2.2.2.2.2.2.2.2.2.2.2.2.2.2.2.2.2.2.2.2.1, sv36.2.2.2.2.2.2.2.2.2.2.2.2.2.2.2.2.2.2.2.2.2.2.2.2.2.2.2.2.2.2.2.2.2.1, sv36.2.2.2.2.2.2.2.2.2.2.2.2.2.2.2.2.2.2.2.2.2.2.2.2.2.2.2.2.2.2.2.2.2.2.1, sv36.2.2.2.2.2.2.2.2.2.2.2.2.2.2.2.2.2.2.2.2.2.2.2.2.2.2.2.2.2.2.2.2.2.2.2.1, sv36.2.2.2.2.2.2.2.2.2.2.2.2.2.2.2.2.2.2.2.2.2.2.2.2.2.2.2.2.2.2.2.2.2.2.2.2.1, sv36.2.2.2.2.2.2.2.2.2.2.2.2.2.2.2.2.2.2.2.2.2.2.2.2.2.2.2.2.2.2.2.2.2.2.2.2.2.1, sv36.2.2.2.2.2.2.2.2.2.2.2.2.2.2.2.2.2.2.2.2.2.2.2.2.2.2.2.2.2.2.2.2.2.2.2.2.2.2.1, trivial⟩, HG, HB1_2, hr⟩, by rw [show _ = _ from sv36.2.2.1, show _ = _ from sv16.2.2.1]; simp [intOf]; omega⟩
     · refine rx_av sv25 [(17, .int .i64 ((i : Int))), (18, .bool true), (19, .bool true), (20, pk B1_2 64), (21, .slice ao ks.length cap), (22, .int .i64 ((i : Int))), (23, .int .i64 (((i - 1 : Nat) : Int))), (24, pk ((bO ao)) (oO ao + (i - 1) * 33)), (25, kval y), (26, pt B4_24), (27, dval x.o), (28, .int .i64 ((bcmp y.o x.o))), (29, .bool false), (30, .bool false), (31, .bool false), (32, pk B4_24 32), (33, .agg #[VK.s x]), (34, .bool false), (35, .bool true), (36, .bool true)]
         ⟨ym r5, ybc r6 (fun _ => rn_gtr (by simp; omega)), ym r5, ox_field rfl rfl (gy rfl rfl rfl) (oy rfl rfl) (fun _ => by kernel_rfl) (fun _ => rfl), ox_load rfl rfl (gy rfl rfl rfl) (oy rfl rfl) (fun _ g => loadsAt (tyKs (.slice ao ks.length cap) rfl) (range_part (L := [bv sa, bv po, [.slice ao ks.length cap]]) (i := 2) (row_of g HB1_2 (by simp)) rfl (by simp [bv_length, zero32_len, hsa.1, hpo.1]))) (fun _ => rfl), ox_move 3 22 (.inl rfl) rfl rfl (gy rfl rfl rfl) (fun _ _ h => h), ox_bin rfl rfl (gy rfl rfl rfl) (oy rfl rfl) rfl (fun _ => rn_sub (by rw [wrap_i64 (by omega) (by omega)]; omega)) (fun _ => rfl), ox_index rfl rfl (gy rfl rfl rfl) (oy rfl rfl) (oy rfl rfl) (fun w => ix_sl Try.underlying56 (by kernel_rfl) (hr.1.1) (by omega) (rfl) w) (fun _ => rfl), ox_load rfl rfl (gy rfl rfl rfl) (oy rfl rfl) (fun _ g => loadsAt (tyK y) (RdK.keyX (hr.kn g) rfl hp hx_y)) (fun _ => rfl), ox_field rfl rfl (gy rfl rfl rfl) (oy rfl rfl) (fun _ => by kernel_rfl) (fun _ => rfl), ox_load rfl rfl (gy rfl rfl rfl) (oy rfl rfl) (fun _ g => loadsAt (tyD x.o x.ho.1) (range_part (L := [bv x.o, [VK.s x]]) (i := 0) (row_of g HB4_24 (by simp)) rfl rfl)) (fun _ => rfl), ox_call (Sp.is (.int .i64 ((bcmp y.o x.o)))) [kval y, dval x.o] rfl rfl (gy rfl rfl rfl) ⟨(oy rfl rfl), (oy rfl rfl), trivial⟩ (is_on fun W g => cmpo_walk y x.o x.ho W) (fun _ _ h => h) (enter_of Try.func80 (by kernel_rfl) rfl), ox_bin rfl rfl (gy rfl rfl rfl) (oy rfl rfl) rfl (fun _ => rn_geq (by rw [bcmp_ge, hc]; rfl)) (fun _ => rfl), ox_pick rfl rfl trivial (oy rfl rfl) (oy rfl rfl) (fun _ => rfl), ym r5, ox_field rfl rfl (gy rfl rfl rfl) (oy rfl rfl) (fun _ => by kernel_rfl) (fun _ => rfl), ox_load rfl rfl (gy rfl rfl rfl) (oy rfl rfl) (fun _ g => loadsAt (tyT (VK.s x) rfl) (range_part (L := [bv x.o, [VK.s x]]) (i := 1) (row_of g HB4_24 (by simp)) rfl (by simp [bv_length, zero32_len, x.ho.1]))) (fun _ => rfl), ox_call (Sp.is (.bool false)) [.agg #[VK.s x]] rfl rfl (gy rfl rfl rfl) ⟨(oy rfl rfl), trivial⟩ (is_on fun W g => valid_callB hv ((hr.kn g).kt hi hx_x)) (fun _ _ h => h) (enter_of Try.func27 (by kernel_rfl) rfl), ox_un rfl rfl (gy rfl rfl rfl) (oy rfl rfl) (fun _ => rn_not) (fun _ => rfl), ox_pick rfl rfl trivial (oy rfl rfl) (oy rfl rfl) (fun _ => rfl), trivial⟩ fun a37 w37 g37 sv37 => ?_
       refine k27 _ _ ?_
       refine cx_ifT sv37 rfl rfl ?_
       refine wp_seq_k fun K38 k38 => ?_
       refine wp_region_lit ?_
       refine tl_as (v := .bool false) sv37 r6 fun a39 sv39 => ?_
       refine tl_nil ?_
       refine k38 _ _ ?_
       replace HB1_2 := rw_kn g37 HB1_2
       replace HB4_24 := rw_kn g37 HB4_24
       replace hr := hr.kn g37
       replace HG := grown_trans HG g37
       refine wp_ret ?_
       repeat refine then_ret ?_
       refine r21 _ _ ?_
       repeat refine then_ret ?_
       refine r15 _ _ ?_
       repeat refine then_ret ?_
       refine cx_retD (fn := Try.f45) sv39 (res_tmp (p := 2) Try.results45 sv39 rfl rfl) (inv_of Try.func79 (by kernel_rfl) rfl _ _) (recValidVault_walk _) ?_
       exact ⟨retB ((vldV_no (i := i) (by rw [hmap]; exact hi) (by rw [hchk]; simp [hv, hc, Nat.ne_of_gt hz])).symm), HG⟩
     · refine rx_av sv25 [(17, .int .i64 ((i : Int))), (18, .bool true), (19, .bool true), (20, pk B1_2 64), (21, .slice ao ks.length cap), (22, .int .i64 ((i : Int))), (23, .int .i64 (((i - 1 : Nat) : Int))), (24, pk ((bO ao)) (oO ao + (i - 1) * 33)), (25, kval y), (26, pt B4_24), (27, dval x.o), (28, .int .i64 ((bcmp y.o x.o))), (29, .bool true), (30, .bool true), (31, .bool true), (32, undef), (33, undef), (34, undef), (35, undef), (36, .bool true)]
         ⟨ym r5, ybc r6 (fun _ => rn_gtr (by simp; omega)), ym r5, ox_field rfl rfl (gy rfl rfl rfl) (oy rfl rfl) (fun _ => by kernel_rfl) (fun _ => rfl), ox_load rfl rfl (gy rfl rfl rfl) (oy rfl rfl) (fun _ g => loadsAt (tyKs (.slice ao ks.length cap) rfl) (range_part (L := [bv sa, bv po, [.slice ao ks.length cap]]) (i := 2) (row_of g HB1_2 (by simp)) rfl (by simp [bv_length, zero32_len, hsa.1, hpo.1]))) (fun _ => rfl), ox_move 3 22 (.inl rfl) rfl rfl (gy rfl rfl rfl) (fun _ _ h => h), ox_bin rfl rfl (gy rfl rfl rfl) (oy rfl rfl) rfl (fun _ => rn_sub (by rw [wrap_i64 (by omega) (by omega)]; omega)) (fun _ => rfl), ox_index rfl rfl (gy rfl rfl rfl) (oy rfl rfl) (oy rfl rfl) (fun w => ix_sl Try.underlying56 (by kernel_rfl) (hr.1.1) (by omega) (rfl) w) (fun _ => rfl), ox_load rfl rfl (gy rfl rfl rfl) (oy rfl rfl) (fun _ g => loadsAt (tyK y) (RdK.keyX (hr.kn g) rfl hp hx_y)) (fun _ => rfl), ox_field rfl rfl (gy rfl rfl rfl) (oy rfl rfl) (fun _ => by kernel_rfl) (fun _ => rfl), ox_load rfl rfl (gy rfl rfl rfl) (oy rfl rfl) (fun _ g => loadsAt (tyD x.o x.ho.1) (range_part (L := [bv x.o, [VK.s x]]) (i := 0) (row_of g HB4_24 (by simp)) rfl rfl)) (fun _ => rfl), ox_call (Sp.is (.int .i64 ((bcmp y.o x.o)))) [kval y, dval x.o] rfl rfl (gy rfl rfl rfl) ⟨(oy rfl rfl), (oy rfl rfl), trivial⟩ (is_on fun W g => cmpo_walk y x.o x.ho W) (fun _ _ h => h) (enter_of Try.func80 (by kernel_rfl) rfl), ox_bin rfl rfl (gy rfl rfl rfl) (oy rfl rfl) rfl (fun _ => rn_geq (by rw [bcmp_ge, hc]; rfl)) (fun _ => rfl), ox_pick rfl rfl trivial (oy rfl rfl) (oy rfl rfl) (fun _ => rfl), ym r5, ox_off (gn rfl rfl rfl) rfl (fun _ => rfl), ox_off (gn rfl rfl rfl) rfl (fun _ => rfl), ox_off (gn rfl rfl rfl) rfl (fun _ => rfl), ox_off (gn rfl rfl rfl) rfl (fun _ => rfl), ox_pick rfl rfl trivial (oy rfl rfl) rfl (fun _ => rfl), trivial⟩ fun a40 w40 g40 sv40 => ?_
       refine k27 _ _ ?_
       refine cx_ifT sv40 rfl rfl ?_
       refine wp_seq_k fun K41 k41 => ?_
       refine wp_region_lit ?_
       refine tl_as (v := .bool false) sv40 r6 fun a42 sv42 => ?_
       refine tl_nil ?_
       refine k41 _ _ ?_
       replace HB1_2 := rw_kn g40 HB1_2
       replace HB4_24 := rw_kn g40 HB4_24
       replace hr := hr.kn g40
       replace HG := grown_trans HG g40
       refine wp_ret ?_
       repeat refine then_ret ?_
       refine r21 _ _ ?_
       repeat refine then_ret ?_
       refine r15 _ _ ?_
       repeat refine then_ret ?_
       refine cx_retD (fn := Try.f45) sv42 (res_tmp (p := 2) Try.results45 sv42 rfl rfl) (inv_of Try.func79 (by kernel_rfl) rfl _ _) (recValidVault_walk _) ?_
       exact ⟨retB ((vldV_no (i := i) (by rw [hmap]; exact hi) (by rw [hchk]; simp [hv, hc, Nat.ne_of_gt hz])).symm), HG⟩
     · refine rx_av sv25 [(17, .int .i64 ((i : Int))), (18, .bool true), (19, .bool true), (20, pk B1_2 64), (21, .slice ao ks.length cap), (22, .int .i64 ((i : Int))), (23, .int .i64 (((i - 1 : Nat) : Int))), (24, pk ((bO ao)) (oO ao + (i - 1) * 33)), (25, kval y), (26, pt B4_24), (27, dval x.o), (28, .int .i64 ((bcmp y.o x.o))), (29, .bool true), (30, .bool true), (31, .bool true), (32, undef), (33, undef), (34, undef), (35, undef), (36, .bool true)]
         ⟨ym r5, ybc r6 (fun _ => rn_gtr (by simp; omega)), ym r5, ox_field rfl rfl (gy rfl rfl rfl) (oy rfl rfl) (fun _ => by kernel_rfl) (fun _ => rfl), ox_load rfl rfl (gy rfl rfl rfl) (oy rfl rfl) (fun _ g => loadsAt (tyKs (.slice ao ks.length cap) rfl) (range_part (L := [bv sa, bv po, [.slice ao ks.length cap]]) (i := 2) (row_of g HB1_2 (by simp)) rfl (by simp [bv_length, zero32_len, hsa.1, hpo.1]))) (fun _ => rfl), ox_move 3 22 (.inl rfl) rfl rfl (gy rfl rfl rfl) (fun _ _ h => h), ox_bin rfl rfl (gy rfl rfl rfl) (oy rfl rfl) rfl (fun _ => rn_sub (by rw [wrap_i64 (by omega) (by omega)]; omega)) (fun _ => rfl), ox_index rfl rfl (gy rfl rfl rfl) (oy rfl rfl) (oy rfl rfl) (fun w => ix_sl Try.underlying56 (by kernel_rfl) (hr.1.1) (by omega) (rfl) w) (fun _ => rfl), ox_load rfl rfl (gy rfl rfl rfl) (oy rfl rfl) (fun _ g => loadsAt (tyK y) (RdK.keyX (hr.kn g) rfl hp hx_y)) (fun _ => rfl), ox_field rfl rfl (gy rfl rfl rfl) (oy rfl rfl) (fun _ => by kernel_rfl) (fun _ => rfl), ox_load rfl rfl (gy rfl rfl rfl) (oy rfl rfl) (fun _ g => loadsAt (tyD x.o x.ho.1) (range_part (L := [bv x.o, [VK.s x]]) (i := 0) (row_of g HB4_24 (by simp)) rfl rfl)) (fun _ => rfl), ox_call (Sp.is (.int .i64 ((bcmp y.o x.o)))) [kval y, dval x.o] rfl rfl (gy rfl rfl rfl) ⟨(oy rfl rfl), (oy rfl rfl), trivial⟩ (is_on fun W g => cmpo_walk y x.o x.ho W) (fun _ _ h => h) (enter_of Try.func80 (by kernel_rfl) rfl), ox_bin rfl rfl (gy rfl rfl rfl) (oy rfl rfl) rfl (fun _ => rn_geq (by rw [bcmp_ge, hc]; rfl)) (fun _ => rfl), ox_pick rfl rfl trivial (oy rfl rfl) (oy rfl rfl) (fun _ => rfl), ym r5, ox_off (gn rfl rfl rfl) rfl (fun _ => rfl), ox_off (gn rfl rfl rfl) rfl (fun _ => rfl), ox_off (gn rfl rfl rfl) rfl (fun _ => rfl), ox_off (gn rfl rfl rfl) rfl (fun _ => rfl), ox_pick rfl rfl trivial (oy rfl rfl) rfl (fun _ => rfl), trivial⟩ fun a43 w43 g43 sv43 => ?_
       refine k27 _ _ ?_
       refine cx_ifT sv43 rfl rfl ?_
       refine wp_seq_k fun K44 k44 => ?_
       refine wp_region_lit ?_
       refine tl_as (v := .bool false) sv43 r6 fun a45 sv45 => ?_
       refine tl_nil ?_
       refine k44 _ _ ?_
       replace HB1_2 := rw_kn g43 HB1_2
       replace HB4_24 := rw_kn g43 HB4_24
       replace hr := hr.kn g43
       replace HG := grown_trans HG g43
       refine wp_ret ?_
       repeat refine then_ret ?_
       refine r21 _ _ ?_
       repeat refine then_ret ?_
       refine r15 _ _ ?_
       repeat refine then_ret ?_
       refine cx_retD (fn := Try.f45) sv45 (res_tmp (p := 2) Try.results45 sv45 rfl rfl) (inv_of Try.func79 (by kernel_rfl) rfl _ _) (recValidVault_walk _) ?_
       exact ⟨retB ((vldV_no (i := i) (by rw [hmap]; exact hi) (by rw [hchk]; simp [hv, hc, Nat.ne_of_gt hz])).symm), HG⟩
   · refine wp_region_lit ?_
     refine sx_hv sv16 1 [(13, .bool false)]
       ⟨ybt r7 (fun _ => rn_lss (by simp; omega)), trivial⟩ fun a46 w46 g46 sv46 => ?_
     refine tl_nil ?_
     refine k17 _ _ ?_
     refine wp_seq_k fun K47 k47 => ?_
     refine cx_ifF sv46 rfl rfl ?_
     refine wp_exit ?_
     repeat refine then_exit ?_
     refine x15 _ _ ?_
     refine k12 _ _ ?_
     refine wp_seq_k fun K48 k48 => ?_
     refine wp_region_lit ?_
     refine tl_as (v := .bool true) sv46 r6 fun a49 sv49 => ?_
     refine tl_nil ?_
     refine k48 _ _ ?_
     replace HB1_2 := rw_kn g46 HB1_2
     replace hr := hr.kn g46
     replace HG := grown_trans HG g46
     refine wp_ret ?_
     repeat refine then_ret ?_
     refine cx_retD (fn := Try.f45) sv49 (res_tmp (p := 2) Try.results45 sv49 rfl rfl) (inv_of Try.func79 (by kernel_rfl) rfl _ _) (recValidVault_walk _) ?_
     exact ⟨retB ((vldV_yes (by omega) fun k hk => hb k (by omega)).symm), HG⟩
end Go.Proofs.Yteakoleceoclkaa
