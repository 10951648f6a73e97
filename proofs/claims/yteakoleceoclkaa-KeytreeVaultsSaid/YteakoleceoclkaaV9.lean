/- Vaults: Shred, Drop. (printed by gen_v9.py) -/
import Derived.Test.YteakoleceoclkaaV8
namespace Go.Proofs.Yteakoleceoclkaa
open Go.RowKit Go.Shelf
set_option linter.unusedSimpArgs false
set_option linter.unusedVariables false
theorem map_set {ms : List VK} {P : List VP} {o : List Nat} {T : List Nd} {z el : VK} {i : Nat} (h : ms.map VK.p = P) (hf : fnd P o = true) (hi : pos P o = i) (him : i < ms.length) (hz : ms[i] = z) (ho : el.o = z.o) (hl : el.l = T) : (ms.set i el).map VK.p = setV P o T := by
 rw [setV_set T hf, List.map_set, h, hi]
 have h1 := (fnd_at hf).2
 rw [hi, ← h, od_map him, hz] at h1
 unfold VK.p
 rw [ho, hl, h1]
theorem map_del {ms : List VK} {P : List VP} {o : List Nat} {i : Nat} (h : ms.map VK.p = P) (hi : pos P o = i) : (ms.take i ++ ms.drop (i + 1)).map VK.p = dropV P o := by
 unfold dropV
 rw [hi, List.map_append, List.map_take, List.map_drop, h]
theorem fpKs_del {ms : List VK} {i b : Nat} (h : fpKs (ms.take i ++ ms.drop (i + 1)) b) : fpKs ms b := by
 obtain ⟨k, hk, hb⟩ := h
 rcases List.mem_append.1 hk with hk | hk
 · exact ⟨k, List.mem_of_mem_take hk, hb⟩
 · exact ⟨k, List.mem_of_mem_drop hk, hb⟩
theorem KsT.del {w : World} {ms : List VK} (h : KsT w ms) (i : Nat) : KsT w (ms.take i ++ ms.drop (i + 1)) := by
 have hh : ∀ k, k ∈ ms.take i ++ ms.drop (i + 1) → k ∈ ms := fun k hk => by
   rcases List.mem_append.1 hk with hk | hk
   · exact List.mem_of_mem_take hk
   · exact List.mem_of_mem_drop hk
 exact ⟨fun k hk => h.1 k (hh k hk), fun b ⟨k, hk, hb⟩ => h.2 b ⟨k, hh k hk, hb⟩⟩
theorem KsR.del {w : World} {ms : List VK} (h : KsR w ms) (i : Nat) : KsR w (ms.take i ++ ms.drop (i + 1)) := fun k hk => by
 rcases List.mem_append.1 hk with hk | hk
 · exact h k (List.mem_of_mem_take hk)
 · exact h k (List.mem_of_mem_drop hk)
theorem del_call {ms : List VK} {i A n : Nat} {w : World} (hn : n = ms.length) (hown : Own w 65 33 (.slice (some ⟨A, 0, none⟩) n n) n (ms.flatMap kcells)) (hi : i < n) (h64 : n ≤ 64) :
   Calls Try.prog 73 #[.slice (some ⟨A, 0, none⟩) n n, .int .i64 (i : Int), .int .i64 ((i + 1 : Nat) : Int)] w fun e w' => ∃ v, e = .returned v ∧ ∃ ao cap, v = .slice ao (n - 1) cap ∧ Own w' 65 33 (.slice ao (n - 1) cap) (n - 1) ((ms.take i ++ ms.drop (i + 1)).flatMap kcells) ∧ w.grownBy w' (some A) ∧ ∀ k, fpS (.slice ao (n - 1) cap) k → k = A ∨ w.heap.size ≤ k := by
 subst hn
 have e : ((i + 1 : Nat) : Int) = (i : Int) + 1 := by omega
 have e2 : (ms.take i ++ ms.drop (i + 1)).length = ms.length - 1 := by simp; omega
 rw [e]
 refine (delete_walk ms i _ w hown hi (by omega)).mono fun e W' ⟨v, h1, h2, h3, h4⟩ => ?_
 rw [e2] at h2
 obtain ⟨ao, cap, rfl, _⟩ := (Sl.of_own h2).shape
 exact ⟨_, h1, ao, cap, rfl, h2, h3, fun k hk => (h4 k hk).elim (fun h => .inl (Option.some.inj h).symm) .inr⟩
theorem take_build0 {P : Program} {ops : Array Oper} {S : World → Prop} {K : Act → Prop} {o : Oper} {r : List Oper} {a : Act} {v : Value} (hg : o.guard = none) (T : TypeId) (ho : o.op = .build T #[]) (hr : ∀ w, (Instr.build T #[]).run P w = .ok v w) (h : wpTake P ops S K r (a.put o.dst v)) : wpTake P ops S K (o :: r) a :=
 take_run hg (fun w _ => by simp only [execOp, ho, List.map_toArray, List.map_nil, Sem.run_bind, Sem.run_pure, Result.andThen_ok, hr w]) h
theorem shrO_bad {v : VV} {o : List Nat} {a : Int} (h : isAddr a = false ∨ vldV v.1 = false) : shrO v o a = (zeroV, 1) := by
 unfold shrO
 rcases h with h | h <;> simp [h]
theorem shrO_none {v : VV} {o : List Nat} {a : Int} (h1 : isAddr a = true) (h2 : vldV v.1 = true) (h3 : fnd v.1 o = false) : shrO v o a = (zeroV, 10) := by
 unfold shrO
 simp [h1, h2, h3]
theorem shrO_err {v : VV} {o : List Nat} {a : Int} (h1 : isAddr a = true) (h2 : vldV v.1 = true) (h3 : fnd v.1 o = true) {i : Nat} (hi : pos v.1 o = i) {l : List Nd} (hl : tr v.1 i = l) {q : List Nd × Int} (hq : punOf l a = q) (h0 : ¬ q.2 = 0) : shrO v o a = (zeroV, q.2) := by
 unfold shrO
 simp [h1, h2, h3, hi, hl, hq, h0]
theorem shrO_ok {v : VV} {o : List Nat} {a : Int} (h1 : isAddr a = true) (h2 : vldV v.1 = true) (h3 : fnd v.1 o = true) {i : Nat} (hi : pos v.1 o = i) {l : List Nd} (hl : tr v.1 i = l) {q : List Nd × Int} (hq : punOf l a = q) (h0 : q.2 = 0) : shrO v o a = ((setV v.1 o q.1, v.2.1, v.2.2), 0) := by
 unfold shrO
 simp [h1, h2, h3, hi, hl, hq, h0]
set_option maxRecDepth 100000 in
set_option maxHeartbeats 4000000 in
theorem shr_walk (ks : List VK) (ao : Option Addr) (cap : Nat) (sa po : List Nat) (hsa : Dg sa) (hpo : Dg po) (o : List Nat) (ho : Dg o) (a : Int) (w : World) (hr : RdK w (.slice ao ks.length cap) ks) :
   Calls Try.prog 42 #[vval sa po (.slice ao ks.length cap), dval o, .int .i64 a] w fun e w' => VRes w w' (shrO (ks.map VK.p, sa, po) o a) (fun _ => False) e := by
 refine cx_enterD Try.func42 rfl Try.ntmps42 rfl fun a0 sv0 => ?_
 have HG := World.grownBy.refl w none
 replace sv0 : Sv 54 [] [(0, vval sa po (.slice ao ks.length cap)), (1, dval o), (2, .int .i64 a)] a0 := sv0
 refine wp_seq_k fun K1 k1 => ?_
 refine wp_region_lit ?_
 refine tl_box sv0 rfl rfl rfl rfl rfl rfl (tyVa hsa hpo (.slice ao ks.length cap) rfl) fun a2 w2 B3_2 eq_B3_2 g2 z2 HB3_2 sv2 => ?_
 have lo_B3_2 := nb_lo HG eq_B3_2
 have ap_hr_B3_2 := nb_ap (hr.lt) eq_B3_2
 replace hr := hr.kn g2
 replace HG := grown_trans HG g2
 refine tl_box sv2 rfl rfl rfl rfl rfl rfl (tyD o ho.1) fun a3 w3 B4_3 eq_B4_3 g3 z3 HB4_3 sv3 => ?_
 have ne_B4_3_B3_2 := nb_ne HB3_2 eq_B4_3
 have lo_B4_3 := nb_lo HG eq_B4_3
 have ap_hr_B4_3 := nb_ap (hr.lt) eq_B4_3
 replace HB3_2 := rw_kn g3 HB3_2
 replace hr := hr.kn g3
 replace HG := grown_trans HG g3
 refine tl_alloc (T := 58) (Z := ([bv zero32, bv zero32, [.slice none 0 0]].flatten)) sv3 rfl rfl rfl (fun a w => by kernel_rfl) fun a4 w4 B6_4 eq_B6_4 g4 z4 HB6_4 sv4 => ?_
 have ne_B6_4_B3_2 := nb_ne HB3_2 eq_B6_4
 have ne_B6_4_B4_3 := nb_ne HB4_3 eq_B6_4
 have lo_B6_4 := nb_lo HG eq_B6_4
 have ap_hr_B6_4 := nb_ap (hr.lt) eq_B6_4
 replace HB3_2 := rw_kn g4 HB3_2
 replace HB4_3 := rw_kn g4 HB4_3
 replace hr := hr.kn g4
 replace HG := grown_trans HG g4
 refine tl_alloc (T := 23) (Z := [.int .i64 0]) sv4 rfl rfl rfl (fun a w => by kernel_rfl) fun a5 w5 B7_5 eq_B7_5 g5 z5 HB7_5 sv5 => ?_
 have ne_B7_5_B3_2 := nb_ne HB3_2 eq_B7_5
 have ne_B7_5_B4_3 := nb_ne HB4_3 eq_B7_5
 have ne_B7_5_B6_4 := nb_ne HB6_4 eq_B7_5
 have lo_B7_5 := nb_lo HG eq_B7_5
 have ap_hr_B7_5 := nb_ap (hr.lt) eq_B7_5
 replace HB3_2 := rw_kn g5 HB3_2
 replace HB4_3 := rw_kn g5 HB4_3
 replace HB6_4 := rw_kn g5 HB6_4
 replace hr := hr.kn g5
 replace HG := grown_trans HG g5
 refine tl_nil ?_
 refine k1 _ _ ?_
 refine wp_seq_k fun K6 k6 => ?_
 refine wp_region_lit ?_
 refine tl_makeFunc sv5 rfl rfl rfl rfl rfl rfl fun a7 sv7 => ?_
 refine tl_defer sv7 rfl (dd := { target := .fn (.func 78) #[pt B6_4, pt B7_5], args := #[] }) rfl (by have e1 := sv7.ev (x := .tmp 11) rfl rfl; simp [execOp, resolve, Deferred.ofValue, e1]; try rfl) fun a8 sv8 => ?_
 refine tl_nil ?_
 refine k6 _ _ ?_
 refine wp_seq_k fun K9 k9 => ?_
 refine wp_seq_k fun K10 k10 => ?_
 rcases (show isAddr a = false ∨ (isAddr a = true ∧ vldV (ks.map VK.p) = false) ∨ (isAddr a = true ∧ vldV (ks.map VK.p) = true) by cases isAddr a <;> cases vldV (ks.map VK.p) <;> simp) with ha | ⟨ha, hv⟩ | ⟨ha, hv⟩
 · refine wp_region_lit ?_
   refine sx_hv sv8 8 [(12, .int .i64 a), (13, .bool false), (14, .bool true), (15, .bool true), (16, undef), (17, undef), (18, undef), (19, .bool true)]
     ⟨ym r5, ox_call (Sp.is (.bool false)) [.int .i64 a] rfl rfl trivial ⟨(oy rfl rfl), trivial⟩ (is_on fun W g => isaddr_B ha W) (fun _ _ h => h) (enter_of Try.func53 (by kernel_rfl) rfl), ox_un rfl rfl trivial (oy rfl rfl) (fun _ => rn_not) (fun _ => rfl), ym r5, ox_off (gn rfl rfl rfl) rfl (fun _ => rfl), ox_off (gn rfl rfl rfl) rfl (fun _ => rfl), ox_off (gn rfl rfl rfl) rfl (fun _ => rfl), ox_pick rfl rfl trivial (oy rfl rfl) rfl (fun _ => rfl), trivial⟩ fun a11 w11 g11 sv11 => ?_
   refine tl_nil ?_
   refine k10 _ _ ?_
   refine cx_ifT sv11 rfl rfl ?_
   refine wp_seq_k fun K12 k12 => ?_
   refine wp_region_lit ?_
   replace HB3_2 := rw_kn g11 HB3_2
   replace HB4_3 := rw_kn g11 HB4_3
   replace HB6_4 := rw_kn g11 HB6_4
   replace HB7_5 := rw_kn g11 HB7_5
   replace hr := hr.kn g11
   replace HG := grown_trans HG g11
   refine sx_hv sv11 1 [(20, vval zero32 zero32 (.slice none 0 0))]
     ⟨ox_build (vs := []) rfl rfl trivial trivial (fun _ => bV0 _) (fun _ => rfl), trivial⟩ fun a13 w13 g13 sv13 => ?_
   refine tl_sw sv13 r7 (tyVa zero32_dg zero32_dg (.slice none 0 0) rfl) (rw_kn g13 HB6_4) (by first | rfl | simp [kcells, bv_length, zero32_len, zero32_dg.1, zero32_dg.1]) fun w14 g14 h14 => ?_
   replace HB3_2 := rw_s2 g13 g14 HB3_2 (Ne.symm ne_B6_4_B3_2)
   replace HB4_3 := rw_s2 g13 g14 HB4_3 (Ne.symm ne_B6_4_B4_3)
   replace HB7_5 := rw_s2 g13 g14 HB7_5 ne_B7_5_B6_4
   replace hr := (hr.kn g13).offR g14 (no_b ap_hr_B6_4)
   replace HG := grown_newR (grown_trans HG g13) g14 lo_B6_4
   replace HB6_4 := h14
   refine tl_sw sv13 r7 (tyE 1) HB7_5 rfl fun w15 g15 h15 => ?_
   replace HB3_2 := rw_st g15 HB3_2 (Ne.symm ne_B7_5_B3_2)
   replace HB4_3 := rw_st g15 HB4_3 (Ne.symm ne_B7_5_B4_3)
   replace HB6_4 := rw_st g15 HB6_4 (Ne.symm ne_B7_5_B6_4)
   replace hr := hr.offR g15 (no_b ap_hr_B7_5)
   replace HG := grown_newR HG g15 lo_B7_5
   replace HB7_5 := h15
   refine tl_nil ?_
   refine k12 _ _ ?_
   refine wp_ret ?_
   repeat refine then_ret ?_
   refine cx_retD (fn := Try.f42) sv13 (res_cell2 (p := 6) (q := 7) Try.results42 sv13 rfl rfl rfl rfl (tyVa zero32_dg zero32_dg (.slice none 0 0) rfl) (tyE 1) HB6_4 HB7_5) (inv_of Try.func78 (by kernel_rfl) rfl _ _) (recShred_walk _ _ _) ?_
   exact VRes.zero (shrO_bad (.inl ha)) HG
 · refine wp_region_lit ?_
   refine sx_hv sv8 8 [(12, .int .i64 a), (13, .bool true), (14, .bool false), (15, .bool false), (16, vval sa po (.slice ao ks.length cap)), (17, .bool false), (18, .bool true), (19, .bool true)]
     ⟨ym r5, ox_call (Sp.is (.bool true)) [.int .i64 a] rfl rfl trivial ⟨(oy rfl rfl), trivial⟩ (is_on fun W g => isaddr_B ha W) (fun _ _ h => h) (enter_of Try.func53 (by kernel_rfl) rfl), ox_un rfl rfl trivial (oy rfl rfl) (fun _ => rn_not) (fun _ => rfl), ym r5, ox_load rfl rfl (gy rfl rfl rfl) (oy rfl rfl) (fun _ g => loadsAt (tyVa hsa hpo (.slice ao ks.length cap) rfl) (rangeAt_row (row_of g HB3_2 (by simp)))) (fun _ => rfl), ox_call (Sp.is (.bool false)) [vval sa po (.slice ao ks.length cap)] rfl rfl (gy rfl rfl rfl) ⟨(oy rfl rfl), trivial⟩ (is_on fun W g => vvalid_B hsa hpo (hr.kn g) hv) (fun _ _ h => h) (enter_of Try.func45 (by kernel_rfl) rfl), ox_un rfl rfl (gy rfl rfl rfl) (oy rfl rfl) (fun _ => rn_not) (fun _ => rfl), ox_pick rfl rfl trivial (oy rfl rfl) (oy rfl rfl) (fun _ => rfl), trivial⟩ fun a16 w16 g16 sv16 => ?_
   refine tl_nil ?_
   refine k10 _ _ ?_
   refine cx_ifT sv16 rfl rfl ?_
   refine wp_seq_k fun K17 k17 => ?_
   refine wp_region_lit ?_
   replace HB3_2 := rw_kn g16 HB3_2
   replace HB4_3 := rw_kn g16 HB4_3
   replace HB6_4 := rw_kn g16 HB6_4
   replace HB7_5 := rw_kn g16 HB7_5
   replace hr := hr.kn g16
   replace HG := grown_trans HG g16
   refine sx_hv sv16 1 [(20, vval zero32 zero32 (.slice none 0 0))]
     ⟨ox_build (vs := []) rfl rfl trivial trivial (fun _ => bV0 _) (fun _ => rfl), trivial⟩ fun a18 w18 g18 sv18 => ?_
   refine tl_sw sv18 r7 (tyVa zero32_dg zero32_dg (.slice none 0 0) rfl) (rw_kn g18 HB6_4) (by first | rfl | simp [kcells, bv_length, zero32_len, zero32_dg.1, zero32_dg.1]) fun w19 g19 h19 => ?_
   replace HB3_2 := rw_s2 g18 g19 HB3_2 (Ne.symm ne_B6_4_B3_2)
   replace HB4_3 := rw_s2 g18 g19 HB4_3 (Ne.symm ne_B6_4_B4_3)
   replace HB7_5 := rw_s2 g18 g19 HB7_5 ne_B7_5_B6_4
   replace hr := (hr.kn g18).offR g19 (no_b ap_hr_B6_4)
   replace HG := grown_newR (grown_trans HG g18) g19 lo_B6_4
   replace HB6_4 := h19
   refine tl_sw sv18 r7 (tyE 1) HB7_5 rfl fun w20 g20 h20 => ?_
   replace HB3_2 := rw_st g20 HB3_2 (Ne.symm ne_B7_5_B3_2)
   replace HB4_3 := rw_st g20 HB4_3 (Ne.symm ne_B7_5_B4_3)
   replace HB6_4 := rw_st g20 HB6_4 (Ne.symm ne_B7_5_B6_4)
   replace hr := hr.offR g20 (no_b ap_hr_B7_5)
   replace HG := grown_newR HG g20 lo_B7_5
   replace HB7_5 := h20
   refine tl_nil ?_
   refine k17 _ _ ?_
   refine wp_ret ?_
   repeat refine then_ret ?_
   refine cx_retD (fn := Try.f42) sv18 (res_cell2 (p := 6) (q := 7) Try.results42 sv18 rfl rfl rfl rfl (tyVa zero32_dg zero32_dg (.slice none 0 0) rfl) (tyE 1) HB6_4 HB7_5) (inv_of Try.func78 (by kernel_rfl) rfl _ _) (recShred_walk _ _ _) ?_
   exact VRes.zero (shrO_bad (.inr hv)) HG
 · obtain ⟨i, hi⟩ : ∃ i, pos (ks.map VK.p) o = i := ⟨_, rfl⟩
   have h64 : ks.length ≤ 64 := by have := (vldV_iff.1 hv).1; simpa using this
   refine wp_region_lit ?_
   refine sx_hv sv8 8 [(12, .int .i64 a), (13, .bool true), (14, .bool false), (15, .bool false), (16, vval sa po (.slice ao ks.length cap)), (17, .bool true), (18, .bool false), (19, .bool false)]
     ⟨ym r5, ox_call (Sp.is (.bool true)) [.int .i64 a] rfl rfl trivial ⟨(oy rfl rfl), trivial⟩ (is_on fun W g => isaddr_B ha W) (fun _ _ h => h) (enter_of Try.func53 (by kernel_rfl) rfl), ox_un rfl rfl trivial (oy rfl rfl) (fun _ => rn_not) (fun _ => rfl), ym r5, ox_load rfl rfl (gy rfl rfl rfl) (oy rfl rfl) (fun _ g => loadsAt (tyVa hsa hpo (.slice ao ks.length cap) rfl) (rangeAt_row (row_of g HB3_2 (by simp)))) (fun _ => rfl), ox_call (Sp.is (.bool true)) [vval sa po (.slice ao ks.length cap)] rfl rfl (gy rfl rfl rfl) ⟨(oy rfl rfl), trivial⟩ (is_on fun W g => vvalid_B hsa hpo (hr.kn g) hv) (fun _ _ h => h) (enter_of Try.func45 (by kernel_rfl) rfl), ox_un rfl rfl (gy rfl rfl rfl) (oy rfl rfl) (fun _ => rn_not) (fun _ => rfl), ox_pick rfl rfl trivial (oy rfl rfl) (oy rfl rfl) (fun _ => rfl), trivial⟩ fun a21 w21 g21 sv21 => ?_
   refine tl_nil ?_
   refine k10 _ _ ?_
   refine cx_ifF sv21 rfl rfl ?_
   refine wp_skip ?_
   refine k9 _ _ ?_
   refine wp_seq_k fun K22 k22 => ?_
   replace HB3_2 := rw_kn g21 HB3_2
   replace HB4_3 := rw_kn g21 HB4_3
   replace HB6_4 := rw_kn g21 HB6_4
   replace HB7_5 := rw_kn g21 HB7_5
   replace hr := hr.kn g21
   replace HG := grown_trans HG g21
   cases hf : fnd (ks.map VK.p) o
   · refine wp_region_lit ?_
     refine sx_hv sv21 6 [(22, vval sa po (.slice ao ks.length cap)), (23, dval o), (24, .tuple #[.int .i64 ((i : Int)), .bool false]), (21, .tuple #[.int .i64 ((i : Int)), .bool false]), (25, .int .i64 ((i : Int))), (26, .bool false)]
       ⟨yl r6 (tyVa hsa hpo (.slice ao ks.length cap) rfl) HB3_2, yl r6 (tyD o ho.1) HB4_3, ox_call (Sp.is (.tuple #[.int .i64 ((i : Int)), .bool false])) [vval sa po (.slice ao ks.length cap), dval o] rfl rfl trivial ⟨(oy rfl rfl), (oy rfl rfl), trivial⟩ (is_on fun W g => find_B hsa hpo ho (hr.kn g) hv hf hi) (fun _ _ h => h) (enter_of Try.func70 (by kernel_rfl) rfl), ym r5, ox_extract rfl rfl rfl trivial (fun _ _ h => ⟨_, _, h, rfl, rfl⟩), ox_extract rfl rfl rfl trivial (fun _ _ h => ⟨_, _, h, rfl, rfl⟩), trivial⟩ fun a23 w23 g23 sv23 => ?_
     refine tl_as (v := .int .i64 ((i : Int))) sv23 r6 fun a24 sv24 => ?_
     refine tl_as (v := .bool false) sv24 r6 fun a25 sv25 => ?_
     have sv26 : Sv 54 [{ target := .fn (.func 78) #[pt B6_4, pt B7_5], args := #[] }] [(9, _), (8, _), (12, _), (13, _), (14, _), (15, _), (16, _), (17, _), (18, _), (19, _), (11, _), (7, _), (6, _), (3, _), (0, _), (1, _), (2, _)] a25 := sv25.dl [22, 23, 24, 21, 25, 26, 4]
     refine tl_nil ?_
     refine k22 _ _ ?_
     refine wp_seq_k fun K27 k27 => ?_
     refine wp_seq_k fun K28 k28 => ?_
     refine wp_region_lit ?_
     refine sx_hv sv26 2 [(27, .bool false), (28, .bool true)]
       ⟨ym r5, ox_un rfl rfl trivial (oy rfl rfl) (fun _ => rn_not) (fun _ => rfl), trivial⟩ fun a29 w29 g29 sv29 => ?_
     have gc29 := grown_trans g23 g29
     refine tl_nil ?_
     refine k28 _ _ ?_
     refine cx_ifT sv29 rfl rfl ?_
     refine wp_seq_k fun K30 k30 => ?_
     refine wp_region_lit ?_
     replace HB3_2 := rw_kn gc29 HB3_2
     replace HB4_3 := rw_kn gc29 HB4_3
     replace HB6_4 := rw_kn gc29 HB6_4
     replace HB7_5 := rw_kn gc29 HB7_5
     replace hr := hr.kn gc29
     replace HG := grown_trans HG gc29
     refine sx_hv sv29 1 [(29, vval zero32 zero32 (.slice none 0 0))]
       ⟨ox_build (vs := []) rfl rfl trivial trivial (fun _ => bV0 _) (fun _ => rfl), trivial⟩ fun a31 w31 g31 sv31 => ?_
     refine tl_sw sv31 r7 (tyVa zero32_dg zero32_dg (.slice none 0 0) rfl) (rw_kn g31 HB6_4) (by first | rfl | simp [kcells, bv_length, zero32_len, zero32_dg.1, zero32_dg.1]) fun w32 g32 h32 => ?_
     replace HB3_2 := rw_s2 g31 g32 HB3_2 (Ne.symm ne_B6_4_B3_2)
     replace HB4_3 := rw_s2 g31 g32 HB4_3 (Ne.symm ne_B6_4_B4_3)
     replace HB7_5 := rw_s2 g31 g32 HB7_5 ne_B7_5_B6_4
     replace hr := (hr.kn g31).offR g32 (no_b ap_hr_B6_4)
     replace HG := grown_newR (grown_trans HG g31) g32 lo_B6_4
     replace HB6_4 := h32
     refine tl_sw sv31 r7 (tyE 10) HB7_5 rfl fun w33 g33 h33 => ?_
     replace HB3_2 := rw_st g33 HB3_2 (Ne.symm ne_B7_5_B3_2)
     replace HB4_3 := rw_st g33 HB4_3 (Ne.symm ne_B7_5_B4_3)
     replace HB6_4 := rw_st g33 HB6_4 (Ne.symm ne_B7_5_B6_4)
     replace hr := hr.offR g33 (no_b ap_hr_B7_5)
     replace HG := grown_newR HG g33 lo_B7_5
     replace HB7_5 := h33
     refine tl_nil ?_
     refine k30 _ _ ?_
     refine wp_ret ?_
     repeat refine then_ret ?_
     refine cx_retD (fn := Try.f42) sv31 (res_cell2 (p := 6) (q := 7) Try.results42 sv31 rfl rfl rfl rfl (tyVa zero32_dg zero32_dg (.slice none 0 0) rfl) (tyE 10) HB6_4 HB7_5) (inv_of Try.func78 (by kernel_rfl) rfl _ _) (recShred_walk _ _ _) ?_
     exact VRes.zero (shrO_none ha hv hf) HG
   · have hil : i < ks.length := by have := (fnd_at hf).1; rw [hi] at this; simpa using this
     obtain ⟨x, hx_x⟩ : ∃ x, ks[i]'hil = x := ⟨_, rfl⟩
     have htr : tr (ks.map VK.p) i = x.l := by rw [tr_map hil, hx_x]
     obtain ⟨q, hq⟩ : ∃ q, punOf x.l a = q := ⟨_, rfl⟩
     refine wp_region_lit ?_
     refine sx_hv sv21 6 [(22, vval sa po (.slice ao ks.length cap)), (23, dval o), (24, .tuple #[.int .i64 ((i : Int)), .bool true]), (21, .tuple #[.int .i64 ((i : Int)), .bool true]), (25, .int .i64 ((i : Int))), (26, .bool true)]
       ⟨yl r6 (tyVa hsa hpo (.slice ao ks.length cap) rfl) HB3_2, yl r6 (tyD o ho.1) HB4_3, ox_call (Sp.is (.tuple #[.int .i64 ((i : Int)), .bool true])) [vval sa po (.slice ao ks.length cap), dval o] rfl rfl trivial ⟨(oy rfl rfl), (oy rfl rfl), trivial⟩ (is_on fun W g => find_B hsa hpo ho (hr.kn g) hv hf hi) (fun _ _ h => h) (enter_of Try.func70 (by kernel_rfl) rfl), ym r5, ox_extract rfl rfl rfl trivial (fun _ _ h => ⟨_, _, h, rfl, rfl⟩), ox_extract rfl rfl rfl trivial (fun _ _ h => ⟨_, _, h, rfl, rfl⟩), trivial⟩ fun a34 w34 g34 sv34 => ?_
     refine tl_as (v := .int .i64 ((i : Int))) sv34 r6 fun a35 sv35 => ?_
     refine tl_as (v := .bool true) sv35 r6 fun a36 sv36 => ?_
     have sv37 : Sv 54 [{ target := .fn (.func 78) #[pt B6_4, pt B7_5], args := #[] }] [(9, _), (8, _), (12, _), (13, _), (14, _), (15, _), (16, _), (17, _), (18, _), (19, _), (11, _), (7, _), (6, _), (3, _), (0, _), (1, _), (2, _)] a36 := sv36.dl [22, 23, 24, 21, 25, 26, 4]
     refine tl_nil ?_
     refine k22 _ _ ?_
     refine wp_seq_k fun K38 k38 => ?_
     refine wp_seq_k fun K39 k39 => ?_
     refine wp_region_lit ?_
     refine sx_hv sv37 2 [(27, .bool true), (28, .bool false)]
       ⟨ym r5, ox_un rfl rfl trivial (oy rfl rfl) (fun _ => rn_not) (fun _ => rfl), trivial⟩ fun a40 w40 g40 sv40 => ?_
     have gc40 := grown_trans g34 g40
     refine tl_nil ?_
     refine k39 _ _ ?_
     refine cx_ifF sv40 rfl rfl ?_
     refine wp_skip ?_
     refine k38 _ _ ?_
     refine wp_seq_k fun K41 k41 => ?_
     refine wp_region_lit ?_
     replace HB3_2 := rw_kn gc40 HB3_2
     replace HB4_3 := rw_kn gc40 HB4_3
     replace HB6_4 := rw_kn gc40 HB6_4
     replace HB7_5 := rw_kn gc40 HB7_5
     replace hr := hr.kn gc40
     replace HG := grown_trans HG gc40
     refine sx_head (sv40.st w40) 11 [(31, Sp.is (pk B3_2 64)), (32, Sp.is (.slice ao ks.length cap)), (33, Sp.is (.int .i64 ((i : Int)))), (34, Sp.is (pk ((bO ao)) (oO ao + i * 33))), (35, Sp.is (pk ((bO ao)) (oO ao + i * 33 + 32))), (36, Sp.is (.agg #[VK.s x])), (37, Sp.is (.int .i64 a)), (38, Sp.puncF w40.heap.size q), (30, Sp.puncF w40.heap.size q), (39, Sp.ct w40.heap.size q.1), (40, Sp.is (.int .i64 q.2))] rfl (by kernel_rfl) (by kernel_rfl) (by kernel_rfl)
       ⟨yf r6 (fun _ => by kernel_rfl), yp (i := 2) r6 (tyKs (.slice ao ks.length cap) rfl) HB3_2 rfl (by simp [bv_length, zero32_len, hsa.1, hpo.1]), ym r5, ox_index rfl rfl trivial (oy rfl rfl) (oy rfl rfl) (fun w => ix_sl Try.underlying56 (by kernel_rfl) (hr.1.1) (by omega) (rfl) w) (fun _ => rfl), yf r6 (fun _ => by kernel_rfl), ox_load rfl rfl trivial (oy rfl rfl) (fun _ g => loadsAt (tyT (VK.s x) rfl) (RdK.treeX (hr.kn g) rfl hil hx_x)) (fun _ => rfl), ym r5, ox_call (Sp.puncF w40.heap.size q) [.agg #[VK.s x], .int .i64 a] rfl rfl trivial ⟨(oy rfl rfl), (oy rfl rfl), trivial⟩ (punct_onF hq (hr.kt hil hx_x)) (fun _ _ h => h) (enter_of Try.func24 (by kernel_rfl) rfl), ym r5, ox_extract rfl rfl rfl trivial (fun w u h => puncF_tree w u h), ox_extract rfl rfl rfl trivial (fun w u h => puncF_err w u h), trivial⟩ fun a42 w42 g42 st42 => ?_
     obtain ⟨hn42, hd42, e42_31, e42_32, e42_33, e42_34, e42_35, e42_36, e42_37, e42_38, e42_30, e42_39, e42_40, e42_27, e42_28, e42_9, e42_8, e42_12, e42_13, e42_14, e42_15, e42_16, e42_17, e42_18, e42_19, e42_11, e42_7, e42_6, e42_3, e42_0, e42_1, e42_2, -⟩ := st42
     obtain ⟨ao43, cap43, e42_39q, rt, frT⟩ := e42_39
     have ap_rt_B3_2 := fr_ap frT HB3_2
     have ap_rt_B4_3 := fr_ap frT HB4_3
     have ap_rt_B6_4 := fr_ap frT HB6_4
     have ap_rt_B7_5 := fr_ap frT HB7_5
     have lo_rt : ∀ k, fpT (.slice ao43 q.1.length cap43) k → w.heap.size ≤ k := fun k hk => Nat.le_trans HG.size (frT k hk)
     replace HB3_2 := rw_kn g42 HB3_2
     replace HB4_3 := rw_kn g42 HB4_3
     replace HB6_4 := rw_kn g42 HB6_4
     replace HB7_5 := rw_kn g42 HB7_5
     replace hr := hr.kn g42
     replace HG := grown_trans HG g42
     have sv42 : Sv 54 [{ target := .fn (.func 78) #[pt B6_4, pt B7_5], args := #[] }] [(27, _), (28, _), (9, _), (8, _), (12, _), (13, _), (14, _), (15, _), (16, _), (17, _), (18, _), (19, _), (11, _), (7, _), (6, _), (3, _), (0, _), (1, _), (2, _), (39, _), (40, _)] a42 := ⟨hn42, hd42, e42_27, e42_28, e42_9, e42_8, e42_12, e42_13, e42_14, e42_15, e42_16, e42_17, e42_18, e42_19, e42_11, e42_7, e42_6, e42_3, e42_0, e42_1, e42_2, e42_39q, e42_40, trivial⟩
     refine tl_alloc (T := 34) (Z := [.slice none 0 0]) sv42 rfl rfl rfl (fun a w => by kernel_rfl) fun a44 w44 B10_44 eq_B10_44 g44 z44 HB10_44 sv44 => ?_
     have ne_B10_44_B3_2 := nb_ne HB3_2 eq_B10_44
     have ne_B10_44_B4_3 := nb_ne HB4_3 eq_B10_44
     have ne_B10_44_B6_4 := nb_ne HB6_4 eq_B10_44
     have ne_B10_44_B7_5 := nb_ne HB7_5 eq_B10_44
     have lo_B10_44 := nb_lo HG eq_B10_44
     have ap_hr_B10_44 := nb_ap (hr.lt) eq_B10_44
     have ap_rt_B10_44 := nb_ap (rt.lt) eq_B10_44
     replace HB3_2 := rw_kn g44 HB3_2
     replace HB4_3 := rw_kn g44 HB4_3
     replace HB6_4 := rw_kn g44 HB6_4
     replace HB7_5 := rw_kn g44 HB7_5
     replace hr := hr.kn g44
     replace rt := rt.kn g44
     replace HG := grown_trans HG g44
     refine tl_sw sv44 r7 (tyT (.slice ao43 q.1.length cap43) rfl) HB10_44 rfl fun w45 g45 h45 => ?_
     replace HB3_2 := rw_st g45 HB3_2 (Ne.symm ne_B10_44_B3_2)
     replace HB4_3 := rw_st g45 HB4_3 (Ne.symm ne_B10_44_B4_3)
     replace HB6_4 := rw_st g45 HB6_4 (Ne.symm ne_B10_44_B6_4)
     replace HB7_5 := rw_st g45 HB7_5 (Ne.symm ne_B10_44_B7_5)
     replace hr := hr.offR g45 (no_b ap_hr_B10_44)
     replace rt := rt.offR g45 (no_b ap_rt_B10_44)
     replace HG := grown_newR HG g45 lo_B10_44
     replace HB10_44 := h45
     refine tl_sw sv44 r7 (tyE q.2) HB7_5 rfl fun w46 g46 h46 => ?_
     replace HB3_2 := rw_st g46 HB3_2 (Ne.symm ne_B7_5_B3_2)
     replace HB4_3 := rw_st g46 HB4_3 (Ne.symm ne_B7_5_B4_3)
     replace HB6_4 := rw_st g46 HB6_4 (Ne.symm ne_B7_5_B6_4)
     replace HB10_44 := rw_st g46 HB10_44 ne_B10_44_B7_5
     replace hr := hr.offR g46 (no_b ap_hr_B7_5)
     replace rt := rt.offR g46 (no_b ap_rt_B7_5)
     replace HG := grown_newR HG g46 lo_B7_5
     replace HB7_5 := h46
     refine tl_nil ?_
     refine k41 _ _ ?_
     refine wp_seq_k fun K47 k47 => ?_
     refine wp_seq_k fun K48 k48 => ?_
     by_cases hq0 : q.2 = 0
     · refine wp_region_lit ?_
       refine sx_hv sv44 2 [(41, .int .i64 q.2), (42, .bool false)]
         ⟨yl r6 (tyE q.2) HB7_5, ybc r6 (fun _ => rn_neq (by rw [hq0]; rfl)), trivial⟩ fun a49 w49 g49 sv49 => ?_
       refine tl_nil ?_
       refine k48 _ _ ?_
       refine cx_ifF sv49 rfl rfl ?_
       refine wp_skip ?_
       refine k47 _ _ ?_
       refine wp_seq_k fun K50 k50 => ?_
       refine wp_region_lit ?_
       replace HB3_2 := rw_kn g49 HB3_2
       replace HB4_3 := rw_kn g49 HB4_3
       replace HB6_4 := rw_kn g49 HB6_4
       replace HB7_5 := rw_kn g49 HB7_5
       replace HB10_44 := rw_kn g49 HB10_44
       replace hr := hr.kn g49
       replace rt := rt.kn g49
       replace HG := grown_trans HG g49
       refine sx_head (sv49.st w49) 2 [(45, Sp.is (vval sa po (.slice ao ks.length cap))), (46, Sp.cln w49.heap.size sa po ks.length (ks.map VK.p))] rfl (by kernel_rfl) (by kernel_rfl) (by kernel_rfl)
         ⟨yl r6 (tyVa hsa hpo (.slice ao ks.length cap) rfl) HB3_2, ox_call (Sp.cln w49.heap.size sa po ks.length (ks.map VK.p)) [vval sa po (.slice ao ks.length cap)] rfl rfl trivial ⟨(oy rfl rfl), trivial⟩ (cloned_on hsa hpo hr h64) (fun _ _ h => h) (enter_of Try.func69 (by kernel_rfl) rfl), trivial⟩ fun a51 w51 g51 st51 => ?_
       obtain ⟨hn51, hd51, e51_45, e51_46, e51_41, e51_42, e51_10, e51_27, e51_28, e51_9, e51_8, e51_12, e51_13, e51_14, e51_15, e51_16, e51_17, e51_18, e51_19, e51_11, e51_7, e51_6, e51_3, e51_0, e51_1, e51_2, e51_39, e51_40, -⟩ := st51
       obtain ⟨A, ms, e51_46q, hmp, ow, kr, frA, frK⟩ := e51_46
       have fr_ow : ∀ k, fpS (.slice ((some ⟨A, 0, none⟩)) ks.length ks.length) k → w49.heap.size ≤ k := fun k hk => (Option.some.inj hk) ▸ frA
       have fr_kr : ∀ k, fpKs ms k → w49.heap.size ≤ k := fun k hk => (frK k hk).1
       have ap_kr_ow : ∀ k, fpKs ms k → ¬ fpS (.slice ((some ⟨A, 0, none⟩)) ks.length ks.length) k := fun k hk e => (frK k hk).2 (Option.some.inj e).symm
       have ap_ow_B3_2 := fr_ap fr_ow HB3_2
       have ap_ow_B4_3 := fr_ap fr_ow HB4_3
       have ap_ow_B6_4 := fr_ap fr_ow HB6_4
       have ap_ow_B7_5 := fr_ap fr_ow HB7_5
       have ap_ow_B10_44 := fr_ap fr_ow HB10_44
       have ap_hr_ow : ∀ k, fpK (.slice ao ks.length cap) ks k → ¬ fpS (.slice ((some ⟨A, 0, none⟩)) ks.length ks.length) k := fun k hzr hk => absurd (hr.lt k hzr) (Nat.not_lt.2 (fr_ow k hk))
       have ap_rt_ow : ∀ k, fpT (.slice ao43 q.1.length cap43) k → ¬ fpS (.slice ((some ⟨A, 0, none⟩)) ks.length ks.length) k := fun k hzr hk => absurd (rt.lt k hzr) (Nat.not_lt.2 (fr_ow k hk))
       have lo_ow : ∀ k, fpS (.slice ((some ⟨A, 0, none⟩)) ks.length ks.length) k → w.heap.size ≤ k := fun k hk => Nat.le_trans HG.size (fr_ow k hk)
       have ap_kr_B3_2 := fr_ap fr_kr HB3_2
       have ap_kr_B4_3 := fr_ap fr_kr HB4_3
       have ap_kr_B6_4 := fr_ap fr_kr HB6_4
       have ap_kr_B7_5 := fr_ap fr_kr HB7_5
       have ap_kr_B10_44 := fr_ap fr_kr HB10_44
       have lo_kr : ∀ k, fpKs ms k → w.heap.size ≤ k := fun k hk => Nat.le_trans HG.size (fr_kr k hk)
       replace HB3_2 := rw_kn g51 HB3_2
       replace HB4_3 := rw_kn g51 HB4_3
       replace HB6_4 := rw_kn g51 HB6_4
       replace HB7_5 := rw_kn g51 HB7_5
       replace HB10_44 := rw_kn g51 HB10_44
       replace hr := hr.kn g51
       replace rt := rt.kn g51
       replace HG := grown_trans HG g51
       have sv51 : Sv 54 [{ target := .fn (.func 78) #[pt B6_4, pt B7_5], args := #[] }] [(41, _), (42, _), (10, _), (27, _), (28, _), (9, _), (8, _), (12, _), (13, _), (14, _), (15, _), (16, _), (17, _), (18, _), (19, _), (11, _), (7, _), (6, _), (3, _), (0, _), (1, _), (2, _), (39, _), (40, _), (46, _)] a51 := ⟨hn51, hd51, e51_41, e51_42, e51_10, e51_27, e51_28, e51_9, e51_8, e51_12, e51_13, e51_14, e51_15, e51_16, e51_17, e51_18, e51_19, e51_11, e51_7, e51_6, e51_3, e51_0, e51_1, e51_2, e51_39, e51_40, e51_46q, trivial⟩
       refine tl_sw sv51 r7 (tyVa hsa hpo (.slice ((some ⟨A, 0, none⟩)) ks.length ks.length) rfl) HB3_2 (by first | rfl | simp [kcells, bv_length, zero32_len, hsa.1, hpo.1, hsa.1, hpo.1]) fun w52 g52 h52 => ?_
       replace HB4_3 := rw_st g52 HB4_3 ne_B4_3_B3_2
       replace HB6_4 := rw_st g52 HB6_4 ne_B6_4_B3_2
       replace HB7_5 := rw_st g52 HB7_5 ne_B7_5_B3_2
       replace HB10_44 := rw_st g52 HB10_44 ne_B10_44_B3_2
       replace hr := hr.offR g52 (no_b ap_hr_B3_2)
       replace rt := rt.offR g52 (no_b ap_rt_B3_2)
       replace ow := ow.offR g52 (no_b ap_ow_B3_2)
       replace kr := kr.offR g52 (no_b ap_kr_B3_2)
       replace HG := grown_newR HG g52 lo_B3_2
       replace HB3_2 := h52
       refine tl_nil ?_
       refine k50 _ _ ?_
       refine wp_seq_k fun K53 k53 => ?_
       have hml : ks.length = ms.length := Own.rdk ow
       have him : i < ms.length := by omega
       obtain ⟨z, hx_z⟩ : ∃ x, ms[i]'him = x := ⟨_, rfl⟩
       refine wp_region_lit ?_
       refine sx_hv sv51 6 [(47, pk B3_2 64), (48, .slice ((some ⟨A, 0, none⟩)) ks.length ks.length), (49, .int .i64 ((i : Int))), (50, .agg #[.slice ao43 q.1.length cap43]), (51, pk ((bO ((some ⟨A, 0, none⟩)))) (oO ((some ⟨A, 0, none⟩)) + i * 33)), (52, pk ((bO ((some ⟨A, 0, none⟩)))) (oO ((some ⟨A, 0, none⟩)) + i * 33 + 32))]
         ⟨yf r6 (fun _ => by kernel_rfl), yp (i := 2) r6 (tyKs (.slice ((some ⟨A, 0, none⟩)) ks.length ks.length) rfl) HB3_2 rfl (by simp [bv_length, zero32_len, hsa.1, hpo.1]), ym r5, yl r6 (tyT (.slice ao43 q.1.length cap43) rfl) HB10_44, ox_index rfl rfl trivial (oy rfl rfl) (oy rfl rfl) (fun w => ix_sl Try.underlying56 (by kernel_rfl) (Sl.of_own ow) (by omega) (rfl) w) (fun _ => rfl), yf r6 (fun _ => by kernel_rfl), trivial⟩ fun a54 w54 g54 sv54 => ?_
       replace HB3_2 := rw_kn g54 HB3_2
       replace HB4_3 := rw_kn g54 HB4_3
       replace HB6_4 := rw_kn g54 HB6_4
       replace HB7_5 := rw_kn g54 HB7_5
       replace HB10_44 := rw_kn g54 HB10_44
       replace hr := hr.kn g54
       replace rt := rt.kn g54
       replace ow := ow.kn g54
       replace kr := kr.kn g54
       replace HG := grown_trans HG g54
       refine tl_storeE (c := kcells) (el := (⟨z.o, z.ho, ao43, cap43, q.1⟩ : VK)) (A := bv z.o) (B := [z.s]) (C := []) sv54 rfl rfl rfl rfl rfl rfl rfl (tyT (.slice ao43 q.1.length cap43) rfl) ow kcells_len (by decide) (him) (by rw [hx_z]; rfl) rfl rfl (by rw [bv_length, z.ho.1]) fun w55 g55 h55 => ?_
       replace HB3_2 := row_of g55 HB3_2 (fun e => ap_ow_B3_2 _ (row_fp (j := i) ow (by omega) rfl) (Option.some.inj e).symm)
       replace HB4_3 := row_of g55 HB4_3 (fun e => ap_ow_B4_3 _ (row_fp (j := i) ow (by omega) rfl) (Option.some.inj e).symm)
       replace HB6_4 := row_of g55 HB6_4 (fun e => ap_ow_B6_4 _ (row_fp (j := i) ow (by omega) rfl) (Option.some.inj e).symm)
       replace HB7_5 := row_of g55 HB7_5 (fun e => ap_ow_B7_5 _ (row_fp (j := i) ow (by omega) rfl) (Option.some.inj e).symm)
       replace HB10_44 := row_of g55 HB10_44 (fun e => ap_ow_B10_44 _ (row_fp (j := i) ow (by omega) rfl) (Option.some.inj e).symm)
       replace hr := hr.offR g55 (fun k hk e => ap_hr_ow k hk (row_fp (j := i) ow (by omega) e))
       replace rt := rt.offR g55 (fun k hk e => ap_rt_ow k hk (row_fp (j := i) ow (by omega) e))
       replace kr := kr.offR g55 (fun k hk e => ap_kr_ow k hk (row_fp (j := i) ow (by omega) e))
       replace HG := grown_from HG g55 fun k e => lo_ow k (row_fp (j := i) ow (by omega) e)
       replace ow := h55
       have sv56 : Sv 54 [{ target := .fn (.func 78) #[pt B6_4, pt B7_5], args := #[] }] [(41, _), (42, _), (10, _), (27, _), (28, _), (9, _), (8, _), (12, _), (13, _), (14, _), (15, _), (16, _), (17, _), (18, _), (19, _), (11, _), (7, _), (6, _), (3, _), (0, _), (1, _), (2, _), (39, _), (40, _), (46, _)] a54 := sv54.dl [47, 48, 49, 50, 51, 52]
       refine tl_nil ?_
       have kr2 := KsT.set kr (x := (⟨z.o, z.ho, ao43, cap43, q.1⟩ : VK)) rt i
       have ap_kr2_B3_2 : ∀ k, fpKs (ms.set i (⟨z.o, z.ho, ao43, cap43, q.1⟩ : VK)) k → k ≠ B3_2 := fun k hk => (fpKs_set hk).elim (ap_kr_B3_2 k) (ap_rt_B3_2 k)
       have ap_kr2_B4_3 : ∀ k, fpKs (ms.set i (⟨z.o, z.ho, ao43, cap43, q.1⟩ : VK)) k → k ≠ B4_3 := fun k hk => (fpKs_set hk).elim (ap_kr_B4_3 k) (ap_rt_B4_3 k)
       have ap_kr2_B6_4 : ∀ k, fpKs (ms.set i (⟨z.o, z.ho, ao43, cap43, q.1⟩ : VK)) k → k ≠ B6_4 := fun k hk => (fpKs_set hk).elim (ap_kr_B6_4 k) (ap_rt_B6_4 k)
       have ap_kr2_B7_5 : ∀ k, fpKs (ms.set i (⟨z.o, z.ho, ao43, cap43, q.1⟩ : VK)) k → k ≠ B7_5 := fun k hk => (fpKs_set hk).elim (ap_kr_B7_5 k) (ap_rt_B7_5 k)
       have ap_kr2_B10_44 : ∀ k, fpKs (ms.set i (⟨z.o, z.ho, ao43, cap43, q.1⟩ : VK)) k → k ≠ B10_44 := fun k hk => (fpKs_set hk).elim (ap_kr_B10_44 k) (ap_rt_B10_44 k)
       have ap_kr2_ow : ∀ k, fpKs (ms.set i (⟨z.o, z.ho, ao43, cap43, q.1⟩ : VK)) k → ¬ fpS (.slice ((some ⟨A, 0, none⟩)) ks.length ks.length) k := fun k hk => (fpKs_set hk).elim (ap_kr_ow k) (ap_rt_ow k)
       refine k53 _ _ ?_
       refine wp_seq_k fun K57 k57 => ?_
       refine wp_region_lit ?_
       refine sx_hv sv56 1 [(53, vval sa po (.slice ((some ⟨A, 0, none⟩)) ks.length ks.length))]
         ⟨yl r6 (tyVa hsa hpo (.slice ((some ⟨A, 0, none⟩)) ks.length ks.length) rfl) HB3_2, trivial⟩ fun a58 w58 g58 sv58 => ?_
       refine tl_sw sv58 r7 (tyVa hsa hpo (.slice ((some ⟨A, 0, none⟩)) ks.length ks.length) rfl) (rw_kn g58 HB6_4) (by first | rfl | simp [kcells, bv_length, zero32_len, hsa.1, hpo.1]) fun w59 g59 h59 => ?_
       replace HB3_2 := rw_s2 g58 g59 HB3_2 (Ne.symm ne_B6_4_B3_2)
       replace HB4_3 := rw_s2 g58 g59 HB4_3 (Ne.symm ne_B6_4_B4_3)
       replace HB7_5 := rw_s2 g58 g59 HB7_5 ne_B7_5_B6_4
       replace HB10_44 := rw_s2 g58 g59 HB10_44 ne_B10_44_B6_4
       replace hr := (hr.kn g58).offR g59 (no_b ap_hr_B6_4)
       replace ow := (ow.kn g58).offR g59 (no_b ap_ow_B6_4)
       replace kr2 := (kr2.kn g58).offR g59 (no_b ap_kr2_B6_4)
       replace HG := grown_newR (grown_trans HG g58) g59 lo_B6_4
       replace HB6_4 := h59
       refine tl_sw sv58 r7 (tyE 0) HB7_5 rfl fun w60 g60 h60 => ?_
       replace HB3_2 := rw_st g60 HB3_2 (Ne.symm ne_B7_5_B3_2)
       replace HB4_3 := rw_st g60 HB4_3 (Ne.symm ne_B7_5_B4_3)
       replace HB6_4 := rw_st g60 HB6_4 (Ne.symm ne_B7_5_B6_4)
       replace HB10_44 := rw_st g60 HB10_44 ne_B10_44_B7_5
       replace hr := hr.offR g60 (no_b ap_hr_B7_5)
       replace ow := ow.offR g60 (no_b ap_ow_B7_5)
       replace kr2 := kr2.offR g60 (no_b ap_kr2_B7_5)
       replace HG := grown_newR HG g60 lo_B7_5
       replace HB7_5 := h60
       refine tl_nil ?_
       refine k57 _ _ ?_
       refine wp_ret ?_
       repeat refine then_ret ?_
       refine cx_retD (fn := Try.f42) sv58 (res_cell2 (p := 6) (q := 7) Try.results42 sv58 rfl rfl rfl rfl (tyVa hsa hpo (.slice ((some ⟨A, 0, none⟩)) ks.length ks.length) rfl) (tyE 0) HB6_4 HB7_5) (inv_of Try.func78 (by kernel_rfl) rfl _ _) (recShred_walk _ _ _) ?_
       exact VRes.mk (P := setV (ks.map VK.p) o q.1) (shrO_ok ha hv hf hi htr hq hq0) (map_set (el := (⟨z.o, z.ho, ao43, cap43, q.1⟩ : VK)) hmp hf hi him hx_z rfl rfl) ow kr2 HG
     · refine wp_region_lit ?_
       refine sx_hv sv44 2 [(41, .int .i64 q.2), (42, .bool true)]
         ⟨yl r6 (tyE q.2) HB7_5, ybc r6 (fun _ => rn_neq (by simpa using hq0)), trivial⟩ fun a61 w61 g61 sv61 => ?_
       refine tl_nil ?_
       refine k48 _ _ ?_
       refine cx_ifT sv61 rfl rfl ?_
       refine wp_seq_k fun K62 k62 => ?_
       replace HB3_2 := rw_kn g61 HB3_2
       replace HB4_3 := rw_kn g61 HB4_3
       replace HB6_4 := rw_kn g61 HB6_4
       replace HB7_5 := rw_kn g61 HB7_5
       replace HB10_44 := rw_kn g61 HB10_44
       replace hr := hr.kn g61
       replace rt := rt.kn g61
       replace HG := grown_trans HG g61
       have gd63 := grown_drew w61
       replace HB3_2 := rw_kn gd63 HB3_2
       replace HB4_3 := rw_kn gd63 HB4_3
       replace HB6_4 := rw_kn gd63 HB6_4
       replace HB7_5 := rw_kn gd63 HB7_5
       replace HB10_44 := rw_kn gd63 HB10_44
       replace hr := hr.kn gd63
       replace rt := rt.kn gd63
       replace HG := grown_trans HG gd63
       refine wp_region_noPanic ?_
       refine region_script (fun w' => w'.heap[B7_5]? = some (.cells [.int .i64 q.2].toArray 23 (0, 0))) [0, 1] [2, 3] (by kernel_rfl) (by kernel_rfl) (fun _ _ d _ _ h => by cases d <;> exact h) rfl (by kernel_rfl) HB7_5 ?_
       simp only [List.filterMap_cons, List.filterMap_nil, List.getElem?_toArray, List.getElem?_cons_succ, List.getElem?_cons_zero]
       refine take_build0 rfl 58 rfl bV0 ?_
       have sv63A : Sv 54 [{ target := .fn (.func 78) #[pt B6_4, pt B7_5], args := #[] }] [(43, vval zero32 zero32 (.slice none 0 0)), (41, .int .i64 q.2), (42, .bool true), (10, pt B10_44), (27, .bool true), (28, .bool false), (9, .bool true), (8, .int .i64 ((i : Int))), (12, .int .i64 a), (13, .bool true), (14, .bool false), (15, .bool false), (16, vval sa po (.slice ao ks.length cap)), (17, .bool true), (18, .bool false), (19, .bool false), (11, .func (.func 78) #[] #[pt B6_4, pt B7_5]), (7, pt B7_5), (6, pt B6_4), (3, pt B3_2), (0, vval sa po (.slice ao ks.length cap)), (1, dval o), (2, .int .i64 a), (39, .agg #[.slice ao43 q.1.length cap43]), (40, .int .i64 q.2)] (Act.put a61 (some 43) (vval zero32 zero32 (.slice none 0 0))) := sv61.put (by decide) _
       refine take_load rfl 23 (.tmp 7) (p := .pointer (some ⟨B7_5, 0, none⟩)) rfl (sv63A.ev rfl rfl) (fun _ h => loadsAt (tyE q.2) (rangeAt_row h)) ?_
       have sv63B : Sv 54 [{ target := .fn (.func 78) #[pt B6_4, pt B7_5], args := #[] }] [(44, .int .i64 q.2), (43, vval zero32 zero32 (.slice none 0 0)), (41, .int .i64 q.2), (42, .bool true), (10, pt B10_44), (27, .bool true), (28, .bool false), (9, .bool true), (8, .int .i64 ((i : Int))), (12, .int .i64 a), (13, .bool true), (14, .bool false), (15, .bool false), (16, vval sa po (.slice ao ks.length cap)), (17, .bool true), (18, .bool false), (19, .bool false), (11, .func (.func 78) #[] #[pt B6_4, pt B7_5]), (7, pt B7_5), (6, pt B6_4), (3, pt B3_2), (0, vval sa po (.slice ao ks.length cap)), (1, dval o), (2, .int .i64 a), (39, .agg #[.slice ao43 q.1.length cap43]), (40, .int .i64 q.2)] (Act.put (Act.put a61 (some 43) (vval zero32 zero32 (.slice none 0 0))) (some 44) (.int .i64 q.2)) := sv63A.put (by decide) _
       generalize hcl : Act.put (Act.put a61 (some 43) (vval zero32 zero32 (.slice none 0 0))) (some 44) (.int .i64 q.2) = a63 at sv63B
       change wpList _ _ _ _ a63 _
       refine tl_sw sv63B r7 (tyVa zero32_dg zero32_dg (.slice none 0 0) rfl) HB6_4 (by first | rfl | simp [kcells, bv_length, zero32_len, zero32_dg.1, zero32_dg.1]) fun w64 g64 h64 => ?_
       replace HB3_2 := rw_st g64 HB3_2 (Ne.symm ne_B6_4_B3_2)
       replace HB4_3 := rw_st g64 HB4_3 (Ne.symm ne_B6_4_B4_3)
       replace HB7_5 := rw_st g64 HB7_5 ne_B7_5_B6_4
       replace HB10_44 := rw_st g64 HB10_44 ne_B10_44_B6_4
       replace hr := hr.offR g64 (no_b ap_hr_B6_4)
       replace rt := rt.offR g64 (no_b ap_rt_B6_4)
       replace HG := grown_newR HG g64 lo_B6_4
       replace HB6_4 := h64
       refine tl_nil ⟨HB7_5, ?_⟩
       change wpList _ _ _ _ _ _
       refine tl_sw sv63B r7 (tyE q.2) HB7_5 rfl fun w65 g65 h65 => ?_
       replace HB3_2 := rw_st g65 HB3_2 (Ne.symm ne_B7_5_B3_2)
       replace HB4_3 := rw_st g65 HB4_3 (Ne.symm ne_B7_5_B4_3)
       replace HB6_4 := rw_st g65 HB6_4 (Ne.symm ne_B7_5_B6_4)
       replace HB10_44 := rw_st g65 HB10_44 ne_B10_44_B7_5
       replace hr := hr.offR g65 (no_b ap_hr_B7_5)
       replace rt := rt.offR g65 (no_b ap_rt_B7_5)
       replace HG := grown_newR HG g65 lo_B7_5
       replace HB7_5 := h65
       refine tl_nil ⟨HB7_5, ?_⟩
       refine NoPanic.normal ?_
       refine k62 _ _ ?_
       refine wp_ret ?_
       repeat refine then_ret ?_
       refine cx_retD (fn := Try.f42) sv63B (res_cell2 (p := 6) (q := 7) Try.results42 sv63B rfl rfl rfl rfl (tyVa zero32_dg zero32_dg (.slice none 0 0) rfl) (tyE q.2) HB6_4 HB7_5) (inv_of Try.func78 (by kernel_rfl) rfl _ _) (recShred_walk _ _ _) ?_
       exact VRes.zero (shrO_err ha hv hf hi htr hq hq0) HG
set_option maxRecDepth 100000 in
set_option maxHeartbeats 4000000 in
theorem drp_walk (ks : List VK) (ao : Option Addr) (cap : Nat) (sa po : List Nat) (hsa : Dg sa) (hpo : Dg po) (o : List Nat) (ho : Dg o) (w : World) (hr : RdK w (.slice ao ks.length cap) ks) :
   Calls Try.prog 37 #[vval sa po (.slice ao ks.length cap), dval o] w fun e w' => VRes w w' (drpO (ks.map VK.p, sa, po) o) (fun _ => False) e := by
 refine cx_enterD Try.func37 rfl Try.ntmps37 rfl fun a0 sv0 => ?_
 have HG := World.grownBy.refl w none
 replace sv0 : Sv 32 [] [(0, vval sa po (.slice ao ks.length cap)), (1, dval o)] a0 := sv0
 refine wp_seq_k fun K1 k1 => ?_
 refine wp_region_lit ?_
 refine tl_box sv0 rfl rfl rfl rfl rfl rfl (tyVa hsa hpo (.slice ao ks.length cap) rfl) fun a2 w2 B2_2 eq_B2_2 g2 z2 HB2_2 sv2 => ?_
 have lo_B2_2 := nb_lo HG eq_B2_2
 have ap_hr_B2_2 := nb_ap (hr.lt) eq_B2_2
 replace hr := hr.kn g2
 replace HG := grown_trans HG g2
 refine tl_box sv2 rfl rfl rfl rfl rfl rfl (tyD o ho.1) fun a3 w3 B3_3 eq_B3_3 g3 z3 HB3_3 sv3 => ?_
 have ne_B3_3_B2_2 := nb_ne HB2_2 eq_B3_3
 have lo_B3_3 := nb_lo HG eq_B3_3
 have ap_hr_B3_3 := nb_ap (hr.lt) eq_B3_3
 replace HB2_2 := rw_kn g3 HB2_2
 replace hr := hr.kn g3
 replace HG := grown_trans HG g3
 refine tl_alloc (T := 58) (Z := ([bv zero32, bv zero32, [.slice none 0 0]].flatten)) sv3 rfl rfl rfl (fun a w => by kernel_rfl) fun a4 w4 B4_4 eq_B4_4 g4 z4 HB4_4 sv4 => ?_
 have ne_B4_4_B2_2 := nb_ne HB2_2 eq_B4_4
 have ne_B4_4_B3_3 := nb_ne HB3_3 eq_B4_4
 have lo_B4_4 := nb_lo HG eq_B4_4
 have ap_hr_B4_4 := nb_ap (hr.lt) eq_B4_4
 replace HB2_2 := rw_kn g4 HB2_2
 replace HB3_3 := rw_kn g4 HB3_3
 replace hr := hr.kn g4
 replace HG := grown_trans HG g4
 refine tl_alloc (T := 23) (Z := [.int .i64 0]) sv4 rfl rfl rfl (fun a w => by kernel_rfl) fun a5 w5 B5_5 eq_B5_5 g5 z5 HB5_5 sv5 => ?_
 have ne_B5_5_B2_2 := nb_ne HB2_2 eq_B5_5
 have ne_B5_5_B3_3 := nb_ne HB3_3 eq_B5_5
 have ne_B5_5_B4_4 := nb_ne HB4_4 eq_B5_5
 have lo_B5_5 := nb_lo HG eq_B5_5
 have ap_hr_B5_5 := nb_ap (hr.lt) eq_B5_5
 replace HB2_2 := rw_kn g5 HB2_2
 replace HB3_3 := rw_kn g5 HB3_3
 replace HB4_4 := rw_kn g5 HB4_4
 replace hr := hr.kn g5
 replace HG := grown_trans HG g5
 refine tl_nil ?_
 refine k1 _ _ ?_
 refine wp_seq_k fun K6 k6 => ?_
 refine wp_region_lit ?_
 refine tl_makeFunc sv5 rfl rfl rfl rfl rfl rfl fun a7 sv7 => ?_
 refine tl_defer sv7 rfl (dd := { target := .fn (.func 72) #[pt B4_4, pt B5_5], args := #[] }) rfl (by have e1 := sv7.ev (x := .tmp 8) rfl rfl; simp [execOp, resolve, Deferred.ofValue, e1]; try rfl) fun a8 sv8 => ?_
 refine tl_nil ?_
 refine k6 _ _ ?_
 refine wp_seq_k fun K9 k9 => ?_
 refine wp_seq_k fun K10 k10 => ?_
 cases hv : vldV (ks.map VK.p)
 · refine wp_region_lit ?_
   refine sx_hv sv8 3 [(9, vval sa po (.slice ao ks.length cap)), (10, .bool false), (11, .bool true)]
     ⟨yl r6 (tyVa hsa hpo (.slice ao ks.length cap) rfl) HB2_2, ox_call (Sp.is (.bool false)) [vval sa po (.slice ao ks.length cap)] rfl rfl trivial ⟨(oy rfl rfl), trivial⟩ (is_on fun W g => vvalid_B hsa hpo (hr.kn g) hv) (fun _ _ h => h) (enter_of Try.func45 (by kernel_rfl) rfl), ox_un rfl rfl trivial (oy rfl rfl) (fun _ => rn_not) (fun _ => rfl), trivial⟩ fun a11 w11 g11 sv11 => ?_
   refine tl_nil ?_
   refine k10 _ _ ?_
   refine cx_ifT sv11 rfl rfl ?_
   refine wp_seq_k fun K12 k12 => ?_
   refine wp_region_lit ?_
   replace HB2_2 := rw_kn g11 HB2_2
   replace HB3_3 := rw_kn g11 HB3_3
   replace HB4_4 := rw_kn g11 HB4_4
   replace HB5_5 := rw_kn g11 HB5_5
   replace hr := hr.kn g11
   replace HG := grown_trans HG g11
   refine sx_hv sv11 1 [(12, vval zero32 zero32 (.slice none 0 0))]
     ⟨ox_build (vs := []) rfl rfl trivial trivial (fun _ => bV0 _) (fun _ => rfl), trivial⟩ fun a13 w13 g13 sv13 => ?_
   refine tl_sw sv13 r7 (tyVa zero32_dg zero32_dg (.slice none 0 0) rfl) (rw_kn g13 HB4_4) (by first | rfl | simp [kcells, bv_length, zero32_len, zero32_dg.1, zero32_dg.1]) fun w14 g14 h14 => ?_
   replace HB2_2 := rw_s2 g13 g14 HB2_2 (Ne.symm ne_B4_4_B2_2)
   replace HB3_3 := rw_s2 g13 g14 HB3_3 (Ne.symm ne_B4_4_B3_3)
   replace HB5_5 := rw_s2 g13 g14 HB5_5 ne_B5_5_B4_4
   replace hr := (hr.kn g13).offR g14 (no_b ap_hr_B4_4)
   replace HG := grown_newR (grown_trans HG g13) g14 lo_B4_4
   replace HB4_4 := h14
   refine tl_sw sv13 r7 (tyE 1) HB5_5 rfl fun w15 g15 h15 => ?_
   replace HB2_2 := rw_st g15 HB2_2 (Ne.symm ne_B5_5_B2_2)
   replace HB3_3 := rw_st g15 HB3_3 (Ne.symm ne_B5_5_B3_3)
   replace HB4_4 := rw_st g15 HB4_4 (Ne.symm ne_B5_5_B4_4)
   replace hr := hr.offR g15 (no_b ap_hr_B5_5)
   replace HG := grown_newR HG g15 lo_B5_5
   replace HB5_5 := h15
   refine tl_nil ?_
   refine k12 _ _ ?_
   refine wp_ret ?_
   repeat refine then_ret ?_
   refine cx_retD (fn := Try.f37) sv13 (res_cell2 (p := 4) (q := 5) Try.results37 sv13 rfl rfl rfl rfl (tyVa zero32_dg zero32_dg (.slice none 0 0) rfl) (tyE 1) HB4_4 HB5_5) (inv_of Try.func72 (by kernel_rfl) rfl _ _) (recDrop_walk _ _ _) ?_
   exact VRes.zero (by unfold drpO; rw [if_neg (by rw [hv]; simp)]) HG
 · obtain ⟨i, hi⟩ : ∃ i, pos (ks.map VK.p) o = i := ⟨_, rfl⟩
   have h64 : ks.length ≤ 64 := by have := (vldV_iff.1 hv).1; simpa using this
   refine wp_region_lit ?_
   refine sx_hv sv8 3 [(9, vval sa po (.slice ao ks.length cap)), (10, .bool true), (11, .bool false)]
     ⟨yl r6 (tyVa hsa hpo (.slice ao ks.length cap) rfl) HB2_2, ox_call (Sp.is (.bool true)) [vval sa po (.slice ao ks.length cap)] rfl rfl trivial ⟨(oy rfl rfl), trivial⟩ (is_on fun W g => vvalid_B hsa hpo (hr.kn g) hv) (fun _ _ h => h) (enter_of Try.func45 (by kernel_rfl) rfl), ox_un rfl rfl trivial (oy rfl rfl) (fun _ => rn_not) (fun _ => rfl), trivial⟩ fun a16 w16 g16 sv16 => ?_
   refine tl_nil ?_
   refine k10 _ _ ?_
   refine cx_ifF sv16 rfl rfl ?_
   refine wp_skip ?_
   refine k9 _ _ ?_
   refine wp_seq_k fun K17 k17 => ?_
   replace HB2_2 := rw_kn g16 HB2_2
   replace HB3_3 := rw_kn g16 HB3_3
   replace HB4_4 := rw_kn g16 HB4_4
   replace HB5_5 := rw_kn g16 HB5_5
   replace hr := hr.kn g16
   replace HG := grown_trans HG g16
   cases hf : fnd (ks.map VK.p) o
   · refine wp_region_lit ?_
     refine sx_hv sv16 6 [(14, vval sa po (.slice ao ks.length cap)), (15, dval o), (16, .tuple #[.int .i64 ((i : Int)), .bool false]), (13, .tuple #[.int .i64 ((i : Int)), .bool false]), (17, .int .i64 ((i : Int))), (18, .bool false)]
       ⟨yl r6 (tyVa hsa hpo (.slice ao ks.length cap) rfl) HB2_2, yl r6 (tyD o ho.1) HB3_3, ox_call (Sp.is (.tuple #[.int .i64 ((i : Int)), .bool false])) [vval sa po (.slice ao ks.length cap), dval o] rfl rfl trivial ⟨(oy rfl rfl), (oy rfl rfl), trivial⟩ (is_on fun W g => find_B hsa hpo ho (hr.kn g) hv hf hi) (fun _ _ h => h) (enter_of Try.func70 (by kernel_rfl) rfl), ym r5, ox_extract rfl rfl rfl trivial (fun _ _ h => ⟨_, _, h, rfl, rfl⟩), ox_extract rfl rfl rfl trivial (fun _ _ h => ⟨_, _, h, rfl, rfl⟩), trivial⟩ fun a18 w18 g18 sv18 => ?_
     refine tl_as (v := .int .i64 ((i : Int))) sv18 r6 fun a19 sv19 => ?_
     refine tl_as (v := .bool false) sv19 r6 fun a20 sv20 => ?_
     have sv21 : Sv 32 [{ target := .fn (.func 72) #[pt B4_4, pt B5_5], args := #[] }] [(7, _), (6, _), (9, _), (10, _), (11, _), (8, _), (5, _), (4, _), (2, _), (0, _), (1, _)] a20 := sv20.dl [14, 15, 16, 13, 17, 18, 3]
     refine tl_nil ?_
     refine k17 _ _ ?_
     refine wp_seq_k fun K22 k22 => ?_
     refine wp_seq_k fun K23 k23 => ?_
     refine wp_region_lit ?_
     refine sx_hv sv21 2 [(19, .bool false), (20, .bool true)]
       ⟨ym r5, ox_un rfl rfl trivial (oy rfl rfl) (fun _ => rn_not) (fun _ => rfl), trivial⟩ fun a24 w24 g24 sv24 => ?_
     have gc24 := grown_trans g18 g24
     refine tl_nil ?_
     refine k23 _ _ ?_
     refine cx_ifT sv24 rfl rfl ?_
     refine wp_seq_k fun K25 k25 => ?_
     refine wp_region_lit ?_
     replace HB2_2 := rw_kn gc24 HB2_2
     replace HB3_3 := rw_kn gc24 HB3_3
     replace HB4_4 := rw_kn gc24 HB4_4
     replace HB5_5 := rw_kn gc24 HB5_5
     replace hr := hr.kn gc24
     replace HG := grown_trans HG gc24
     refine sx_hv sv24 1 [(21, vval zero32 zero32 (.slice none 0 0))]
       ⟨ox_build (vs := []) rfl rfl trivial trivial (fun _ => bV0 _) (fun _ => rfl), trivial⟩ fun a26 w26 g26 sv26 => ?_
     refine tl_sw sv26 r7 (tyVa zero32_dg zero32_dg (.slice none 0 0) rfl) (rw_kn g26 HB4_4) (by first | rfl | simp [kcells, bv_length, zero32_len, zero32_dg.1, zero32_dg.1]) fun w27 g27 h27 => ?_
     replace HB2_2 := rw_s2 g26 g27 HB2_2 (Ne.symm ne_B4_4_B2_2)
     replace HB3_3 := rw_s2 g26 g27 HB3_3 (Ne.symm ne_B4_4_B3_3)
     replace HB5_5 := rw_s2 g26 g27 HB5_5 ne_B5_5_B4_4
     replace hr := (hr.kn g26).offR g27 (no_b ap_hr_B4_4)
     replace HG := grown_newR (grown_trans HG g26) g27 lo_B4_4
     replace HB4_4 := h27
     refine tl_sw sv26 r7 (tyE 10) HB5_5 rfl fun w28 g28 h28 => ?_
     replace HB2_2 := rw_st g28 HB2_2 (Ne.symm ne_B5_5_B2_2)
     replace HB3_3 := rw_st g28 HB3_3 (Ne.symm ne_B5_5_B3_3)
     replace HB4_4 := rw_st g28 HB4_4 (Ne.symm ne_B5_5_B4_4)
     replace hr := hr.offR g28 (no_b ap_hr_B5_5)
     replace HG := grown_newR HG g28 lo_B5_5
     replace HB5_5 := h28
     refine tl_nil ?_
     refine k25 _ _ ?_
     refine wp_ret ?_
     repeat refine then_ret ?_
     refine cx_retD (fn := Try.f37) sv26 (res_cell2 (p := 4) (q := 5) Try.results37 sv26 rfl rfl rfl rfl (tyVa zero32_dg zero32_dg (.slice none 0 0) rfl) (tyE 10) HB4_4 HB5_5) (inv_of Try.func72 (by kernel_rfl) rfl _ _) (recDrop_walk _ _ _) ?_
     exact VRes.zero (by unfold drpO; rw [if_pos hv, if_neg (by rw [hf]; simp)]) HG
   · have hil : i < ks.length := by have := (fnd_at hf).1; rw [hi] at this; simpa using this
     obtain ⟨x, hx_x⟩ : ∃ x, ks[i]'hil = x := ⟨_, rfl⟩
     have htr : tr (ks.map VK.p) i = x.l := by rw [tr_map hil, hx_x]
     refine wp_region_lit ?_
     refine sx_hv sv16 6 [(14, vval sa po (.slice ao ks.length cap)), (15, dval o), (16, .tuple #[.int .i64 ((i : Int)), .bool true]), (13, .tuple #[.int .i64 ((i : Int)), .bool true]), (17, .int .i64 ((i : Int))), (18, .bool true)]
       ⟨yl r6 (tyVa hsa hpo (.slice ao ks.length cap) rfl) HB2_2, yl r6 (tyD o ho.1) HB3_3, ox_call (Sp.is (.tuple #[.int .i64 ((i : Int)), .bool true])) [vval sa po (.slice ao ks.length cap), dval o] rfl rfl trivial ⟨(oy rfl rfl), (oy rfl rfl), trivial⟩ (is_on fun W g => find_B hsa hpo ho (hr.kn g) hv hf hi) (fun _ _ h => h) (enter_of Try.func70 (by kernel_rfl) rfl), ym r5, ox_extract rfl rfl rfl trivial (fun _ _ h => ⟨_, _, h, rfl, rfl⟩), ox_extract rfl rfl rfl trivial (fun _ _ h => ⟨_, _, h, rfl, rfl⟩), trivial⟩ fun a29 w29 g29 sv29 => ?_
     refine tl_as (v := .int .i64 ((i : Int))) sv29 r6 fun a30 sv30 => ?_
     refine tl_as (v := .bool true) sv30 r6 fun a31 sv31 => ?_
     have sv32 : Sv 32 [{ target := .fn (.func 72) #[pt B4_4, pt B5_5], args := #[] }] [(7, _), (6, _), (9, _), (10, _), (11, _), (8, _), (5, _), (4, _), (2, _), (0, _), (1, _)] a31 := sv31.dl [14, 15, 16, 13, 17, 18, 3]
     refine tl_nil ?_
     refine k17 _ _ ?_
     refine wp_seq_k fun K33 k33 => ?_
     refine wp_seq_k fun K34 k34 => ?_
     refine wp_region_lit ?_
     refine sx_hv sv32 2 [(19, .bool true), (20, .bool false)]
       ⟨ym r5, ox_un rfl rfl trivial (oy rfl rfl) (fun _ => rn_not) (fun _ => rfl), trivial⟩ fun a35 w35 g35 sv35 => ?_
     have gc35 := grown_trans g29 g35
     refine tl_nil ?_
     refine k34 _ _ ?_
     refine cx_ifF sv35 rfl rfl ?_
     refine wp_skip ?_
     refine k33 _ _ ?_
     refine wp_seq_k fun K36 k36 => ?_
     refine wp_region_lit ?_
     replace HB2_2 := rw_kn gc35 HB2_2
     replace HB3_3 := rw_kn gc35 HB3_3
     replace HB4_4 := rw_kn gc35 HB4_4
     replace HB5_5 := rw_kn gc35 HB5_5
     replace hr := hr.kn gc35
     replace HG := grown_trans HG gc35
     refine sx_head (sv35.st w35) 2 [(22, Sp.is (vval sa po (.slice ao ks.length cap))), (23, Sp.cln w35.heap.size sa po ks.length (ks.map VK.p))] rfl (by kernel_rfl) (by kernel_rfl) (by kernel_rfl)
       ⟨yl r6 (tyVa hsa hpo (.slice ao ks.length cap) rfl) HB2_2, ox_call (Sp.cln w35.heap.size sa po ks.length (ks.map VK.p)) [vval sa po (.slice ao ks.length cap)] rfl rfl trivial ⟨(oy rfl rfl), trivial⟩ (cloned_on hsa hpo hr h64) (fun _ _ h => h) (enter_of Try.func69 (by kernel_rfl) rfl), trivial⟩ fun a37 w37 g37 st37 => ?_
     obtain ⟨hn37, hd37, e37_22, e37_23, e37_19, e37_20, e37_7, e37_6, e37_9, e37_10, e37_11, e37_8, e37_5, e37_4, e37_2, e37_0, e37_1, -⟩ := st37
     obtain ⟨A, ms, e37_23q, hmp, ow, kr, frA, frK⟩ := e37_23
     have fr_ow : ∀ k, fpS (.slice ((some ⟨A, 0, none⟩)) ks.length ks.length) k → w35.heap.size ≤ k := fun k hk => (Option.some.inj hk) ▸ frA
     have fr_kr : ∀ k, fpKs ms k → w35.heap.size ≤ k := fun k hk => (frK k hk).1
     have ap_kr_ow : ∀ k, fpKs ms k → ¬ fpS (.slice ((some ⟨A, 0, none⟩)) ks.length ks.length) k := fun k hk e => (frK k hk).2 (Option.some.inj e).symm
     have ap_ow_B2_2 := fr_ap fr_ow HB2_2
     have ap_ow_B3_3 := fr_ap fr_ow HB3_3
     have ap_ow_B4_4 := fr_ap fr_ow HB4_4
     have ap_ow_B5_5 := fr_ap fr_ow HB5_5
     have ap_hr_ow : ∀ k, fpK (.slice ao ks.length cap) ks k → ¬ fpS (.slice ((some ⟨A, 0, none⟩)) ks.length ks.length) k := fun k hzr hk => absurd (hr.lt k hzr) (Nat.not_lt.2 (fr_ow k hk))
     have lo_ow : ∀ k, fpS (.slice ((some ⟨A, 0, none⟩)) ks.length ks.length) k → w.heap.size ≤ k := fun k hk => Nat.le_trans HG.size (fr_ow k hk)
     have ap_kr_B2_2 := fr_ap fr_kr HB2_2
     have ap_kr_B3_3 := fr_ap fr_kr HB3_3
     have ap_kr_B4_4 := fr_ap fr_kr HB4_4
     have ap_kr_B5_5 := fr_ap fr_kr HB5_5
     have lo_kr : ∀ k, fpKs ms k → w.heap.size ≤ k := fun k hk => Nat.le_trans HG.size (fr_kr k hk)
     replace HB2_2 := rw_kn g37 HB2_2
     replace HB3_3 := rw_kn g37 HB3_3
     replace HB4_4 := rw_kn g37 HB4_4
     replace HB5_5 := rw_kn g37 HB5_5
     replace hr := hr.kn g37
     replace HG := grown_trans HG g37
     have sv37 : Sv 32 [{ target := .fn (.func 72) #[pt B4_4, pt B5_5], args := #[] }] [(19, _), (20, _), (7, _), (6, _), (9, _), (10, _), (11, _), (8, _), (5, _), (4, _), (2, _), (0, _), (1, _), (23, _)] a37 := ⟨hn37, hd37, e37_19, e37_20, e37_7, e37_6, e37_9, e37_10, e37_11, e37_8, e37_5, e37_4, e37_2, e37_0, e37_1, e37_23q, trivial⟩
     refine tl_sw sv37 r7 (tyVa hsa hpo (.slice ((some ⟨A, 0, none⟩)) ks.length ks.length) rfl) HB2_2 (by first | rfl | simp [kcells, bv_length, zero32_len, hsa.1, hpo.1, hsa.1, hpo.1]) fun w38 g38 h38 => ?_
     replace HB3_3 := rw_st g38 HB3_3 ne_B3_3_B2_2
     replace HB4_4 := rw_st g38 HB4_4 ne_B4_4_B2_2
     replace HB5_5 := rw_st g38 HB5_5 ne_B5_5_B2_2
     replace hr := hr.offR g38 (no_b ap_hr_B2_2)
     replace ow := ow.offR g38 (no_b ap_ow_B2_2)
     replace kr := kr.offR g38 (no_b ap_kr_B2_2)
     replace HG := grown_newR HG g38 lo_B2_2
     replace HB2_2 := h38
     refine tl_nil ?_
     refine k36 _ _ ?_
     refine wp_seq_k fun K39 k39 => ?_
     refine wp_region_lit ?_
     refine sx_hv sv37 5 [(24, pk B2_2 64), (25, .slice ((some ⟨A, 0, none⟩)) ks.length ks.length), (26, .int .i64 ((i : Int))), (27, .int .i64 ((i : Int))), (28, .int .i64 (((i + 1 : Nat) : Int)))]
       ⟨yf r6 (fun _ => by kernel_rfl), yp (i := 2) r6 (tyKs (.slice ((some ⟨A, 0, none⟩)) ks.length ks.length) rfl) HB2_2 rfl (by simp [bv_length, zero32_len, hsa.1, hpo.1]), ym r5, ym r5, ybc r6 (fun _ => rn_add (by rw [wrap_i64 (by omega) (by omega)]; omega)), trivial⟩ fun a40 w40 g40 sv40 => ?_
     replace HB2_2 := rw_kn g40 HB2_2
     replace HB3_3 := rw_kn g40 HB3_3
     replace HB4_4 := rw_kn g40 HB4_4
     replace HB5_5 := rw_kn g40 HB5_5
     replace hr := hr.kn g40
     replace ow := ow.kn g40
     replace kr := kr.kn g40
     replace HG := grown_trans HG g40
     have hml : ks.length = ms.length := Own.rdk ow
     refine tl_call sv40 rfl rfl rfl rfl rfl (del_call hml ow hil h64) (enter_of Try.func73 (by kernel_rfl) rfl) fun a41 v41 w41 hD sv41 => ?_
     obtain ⟨aoD, capD, rfl, od, gD, frD⟩ := hD
     have ap_od_B2_2 : ∀ k, fpS (.slice aoD (ks.length - 1) capD) k → k ≠ B2_2 := fun k hk => (frD k hk).elim (fun e => e ▸ ap_ow_B2_2 A rfl) (fun h => Nat.ne_of_gt (Nat.lt_of_lt_of_le (Array.getElem?_eq_some_iff.1 HB2_2).1 h))
     have ap_od_B3_3 : ∀ k, fpS (.slice aoD (ks.length - 1) capD) k → k ≠ B3_3 := fun k hk => (frD k hk).elim (fun e => e ▸ ap_ow_B3_3 A rfl) (fun h => Nat.ne_of_gt (Nat.lt_of_lt_of_le (Array.getElem?_eq_some_iff.1 HB3_3).1 h))
     have ap_od_B4_4 : ∀ k, fpS (.slice aoD (ks.length - 1) capD) k → k ≠ B4_4 := fun k hk => (frD k hk).elim (fun e => e ▸ ap_ow_B4_4 A rfl) (fun h => Nat.ne_of_gt (Nat.lt_of_lt_of_le (Array.getElem?_eq_some_iff.1 HB4_4).1 h))
     have ap_od_B5_5 : ∀ k, fpS (.slice aoD (ks.length - 1) capD) k → k ≠ B5_5 := fun k hk => (frD k hk).elim (fun e => e ▸ ap_ow_B5_5 A rfl) (fun h => Nat.ne_of_gt (Nat.lt_of_lt_of_le (Array.getElem?_eq_some_iff.1 HB5_5).1 h))
     have lo_od : ∀ k, fpS (.slice aoD (ks.length - 1) capD) k → w.heap.size ≤ k := fun k hk => (frD k hk).elim (fun e => e ▸ lo_ow A rfl) (fun h => Nat.le_trans HG.size h)
     replace HB2_2 := row_of gD HB2_2 (fun e => ap_ow_B2_2 _ (rfl) (Option.some.inj e).symm)
     replace HB3_3 := row_of gD HB3_3 (fun e => ap_ow_B3_3 _ (rfl) (Option.some.inj e).symm)
     replace HB4_4 := row_of gD HB4_4 (fun e => ap_ow_B4_4 _ (rfl) (Option.some.inj e).symm)
     replace HB5_5 := row_of gD HB5_5 (fun e => ap_ow_B5_5 _ (rfl) (Option.some.inj e).symm)
     replace hr := hr.offR gD (fun k hk e => ap_hr_ow k hk (e))
     replace kr := kr.offR gD (fun k hk e => ap_kr_ow k hk (e))
     replace HG := grown_from HG gD fun k e => lo_ow k (e)
     have sv42 : Sv 32 [{ target := .fn (.func 72) #[pt B4_4, pt B5_5], args := #[] }] [(29, _), (19, _), (20, _), (7, _), (9, _), (10, _), (11, _), (8, _), (5, _), (4, _), (2, _), (0, _), (1, _), (23, _)] a41 := sv41.dl [24, 25, 26, 27, 28, 6]
     refine sx_hv sv42 1 [(30, pk B2_2 64)]
       ⟨yf r6 (fun _ => by kernel_rfl), trivial⟩ fun a43 w43 g43 sv43 => ?_
     refine tl_sp (L := [bv sa, bv po, [.slice ((some ⟨A, 0, none⟩)) ks.length ks.length]]) (i := 2) sv43 r7 (tyKs (.slice aoD (ks.length - 1) capD) rfl) (rw_kn g43 HB2_2) rfl (by simp [bv_length, zero32_len, hsa.1, hpo.1]) rfl fun w44 g44 h44 => ?_
     replace HB3_3 := rw_s2 g43 g44 HB3_3 ne_B3_3_B2_2
     replace HB4_4 := rw_s2 g43 g44 HB4_4 ne_B4_4_B2_2
     replace HB5_5 := rw_s2 g43 g44 HB5_5 ne_B5_5_B2_2
     replace hr := (hr.kn g43).offR g44 (no_b ap_hr_B2_2)
     replace kr := (kr.kn g43).offR g44 (no_b ap_kr_B2_2)
     replace od := (od.kn g43).offR g44 (no_b ap_od_B2_2)
     replace HG := grown_newR (grown_trans HG g43) g44 lo_B2_2
     replace HB2_2 := h44
     refine tl_nil ?_
     refine k39 _ _ ?_
     refine wp_seq_k fun K45 k45 => ?_
     refine wp_region_lit ?_
     refine sx_hv sv43 1 [(31, vval sa po (.slice aoD (ks.length - 1) capD))]
       ⟨yl r6 (tyVa hsa hpo (.slice aoD (ks.length - 1) capD) rfl) HB2_2, trivial⟩ fun a46 w46 g46 sv46 => ?_
     refine tl_sw sv46 r7 (tyVa hsa hpo (.slice aoD (ks.length - 1) capD) rfl) (rw_kn g46 HB4_4) (by first | rfl | simp [kcells, bv_length, zero32_len, hsa.1, hpo.1]) fun w47 g47 h47 => ?_
     replace HB2_2 := rw_s2 g46 g47 HB2_2 (Ne.symm ne_B4_4_B2_2)
     replace HB3_3 := rw_s2 g46 g47 HB3_3 (Ne.symm ne_B4_4_B3_3)
     replace HB5_5 := rw_s2 g46 g47 HB5_5 ne_B5_5_B4_4
     replace hr := (hr.kn g46).offR g47 (no_b ap_hr_B4_4)
     replace kr := (kr.kn g46).offR g47 (no_b ap_kr_B4_4)
     replace od := (od.kn g46).offR g47 (no_b ap_od_B4_4)
     replace HG := grown_newR (grown_trans HG g46) g47 lo_B4_4
     replace HB4_4 := h47
     refine tl_sw sv46 r7 (tyE 0) HB5_5 rfl fun w48 g48 h48 => ?_
     replace HB2_2 := rw_st g48 HB2_2 (Ne.symm ne_B5_5_B2_2)
     replace HB3_3 := rw_st g48 HB3_3 (Ne.symm ne_B5_5_B3_3)
     replace HB4_4 := rw_st g48 HB4_4 (Ne.symm ne_B5_5_B4_4)
     replace hr := hr.offR g48 (no_b ap_hr_B5_5)
     replace kr := kr.offR g48 (no_b ap_kr_B5_5)
     replace od := od.offR g48 (no_b ap_od_B5_5)
     replace HG := grown_newR HG g48 lo_B5_5
     replace HB5_5 := h48
     refine tl_nil ?_
     refine k45 _ _ ?_
     refine wp_ret ?_
     repeat refine then_ret ?_
     refine cx_retD (fn := Try.f37) sv46 (res_cell2 (p := 4) (q := 5) Try.results37 sv46 rfl rfl rfl rfl (tyVa hsa hpo (.slice aoD (ks.length - 1) capD) rfl) (tyE 0) HB4_4 HB5_5) (inv_of Try.func72 (by kernel_rfl) rfl _ _) (recDrop_walk _ _ _) ?_
     exact VRes.mk (P := dropV (ks.map VK.p) o) (by unfold drpO; rw [if_pos hv, if_pos hf]) (map_del hmp hi) od (KsT.del kr i) HG
end Go.Proofs.Yteakoleceoclkaa
