/- Vaults: Shred, Drop. (printed by gen_v9.py) -/
import Derived.Test.YteakoleceoclkaaV8
namespace Go.Proofs.Yteakoleceoclkaa
open Go.RowKit Go.Shelf
set_option linter.unusedSimpArgs false
set_option linter.unusedVariables false
theorem map_del {ms : List VK} {P : List VP} {o : List Nat} {i : Nat} (h : ms.map VK.p = P) (hi : pos P o = i) : (ms.take i ++ ms.drop (i + 1)).map VK.p = dropV P o := by
  unfold dropV
  rw [hi, List.map_append, List.map_take, List.map_drop, h]
theorem KsT.del {w : World} {ms : List VK} (h : KsT w ms) (i : Nat) : KsT w (ms.take i ++ ms.drop (i + 1)) := by
  have hh : ∀ k, k ∈ ms.take i ++ ms.drop (i + 1) → k ∈ ms := fun k hk => by
    rcases List.mem_append.1 hk with hk | hk
    · exact List.mem_of_mem_take hk
    · exact List.mem_of_mem_drop hk
  exact ⟨fun k hk => h.1 k (hh k hk), fun b ⟨k, hk, hb⟩ => h.2 b ⟨k, hh k hk, hb⟩⟩
theorem KsR.del {w : World} {ms : List VK} (h : KsR w ms) (i : Nat) : KsR w (ms.take i ++ ms.drop (i + 1)) := fun k hk => by
  rcases List.mem_append.1 hk with hk | hk
  · exact h k (List.mem_of_mem_take hk)
  · exact h k (List.mem_of_mem_drop hk)
theorem del_call {ms : List VK} {i A n : Nat} {w : World} (hn : n = ms.length) (hown : Own w 65 33 (.slice (some ⟨A, 0, none⟩) n n) n (ms.flatMap kcells)) (hi : i < n) (h64 : n ≤ 64) :
    Calls Try.prog 73 #[.slice (some ⟨A, 0, none⟩) n n, .int .i64 (i : Int), .int .i64 ((i + 1 : Nat) : Int)] w fun e w' => ∃ v, e = .returned v ∧ ∃ ao cap, v = .slice ao (n - 1) cap ∧ Own w' 65 33 (.slice ao (n - 1) cap) (n - 1) ((ms.take i ++ ms.drop (i + 1)).flatMap kcells) ∧ w.grownBy w' (some A) ∧ ∀ k, fpS (.slice ao (n - 1) cap) k → k = A ∨ w.heap.size ≤ k := by
  subst hn
  have e : ((i + 1 : Nat) : Int) = (i : Int) + 1 := by omega
  have e2 : (ms.take i ++ ms.drop (i + 1)).length = ms.length - 1 := by simp; omega
  rw [e]
  refine (delete_walk ms i _ w hown hi (by omega)).mono fun e W' ⟨v, h1, h2, h3, h4⟩ => ?_
  rw [e2] at h2
  obtain ⟨ao, cap, rfl, _⟩ := (Sl.of_own h2).shape
  exact ⟨_, h1, ao, cap, rfl, h2, h3, fun k hk => (h4 k hk).elim (fun h => .inl (Option.some.inj h).symm) .inr⟩
set_option maxRecDepth 100000 in
set_option maxHeartbeats 4000000 in
theorem drp_walk (ks : List VK) (ao : Option Addr) (cap : Nat) (sa po : List Nat) (hsa : Dg sa) (hpo : Dg po) (o : List Nat) (ho : Dg o) (w : World) (hr : RdK w (.slice ao ks.length cap) ks) :
    Calls Try.prog 37 #[vval sa po (.slice ao ks.length cap), dval o] w fun e w' => VRes w w' (drpO (ks.map VK.p, sa, po) o) (fun _ => False) e := by
  refine cx_enterD Try.func37 rfl Try.ntmps37 rfl fun a0 sv0 => ?_
  have HG := World.grownBy.refl w none
  replace sv0 : Sv 32 [] [(0, vval sa po (.slice ao ks.length cap)), (1, dval o)] a0 := sv0
  refine wp_seq_k fun K1 k1 => ?_
  refine wp_region_lit ?_
  refine tl_box sv0 rfl rfl rfl rfl rfl rfl (tyVa hsa hpo (.slice ao ks.length cap) rfl) fun a2 w2 B2_2 eq_B2_2 g2 z2 HB2_2 sv2 => ?_
  have lo_B2_2 := nb_lo HG eq_B2_2
  have ap_hr_B2_2 := nb_ap (hr.lt) eq_B2_2
  replace hr := hr.kn g2
  replace HG := grown_trans HG g2
  replace sv2 : Sv 32 [] [(2, .pointer (some ⟨B2_2, 0, none⟩)), (0, vval sa po (.slice ao ks.length cap)), (1, dval o)] a2 := sv2
  refine tl_box sv2 rfl rfl rfl rfl rfl rfl (tyD o ho.1) fun a3 w3 B3_3 eq_B3_3 g3 z3 HB3_3 sv3 => ?_
  have ne_B3_3_B2_2 := nb_ne HB2_2 eq_B3_3
  have lo_B3_3 := nb_lo HG eq_B3_3
  have ap_hr_B3_3 := nb_ap (hr.lt) eq_B3_3
  replace HB2_2 := rw_kn g3 HB2_2
  replace hr := hr.kn g3
  replace HG := grown_trans HG g3
  replace sv3 : Sv 32 [] [(3, .pointer (some ⟨B3_3, 0, none⟩)), (2, .pointer (some ⟨B2_2, 0, none⟩)), (0, vval sa po (.slice ao ks.length cap)), (1, dval o)] a3 := sv3
  refine tl_alloc (T := 58) (Z := ([bv zero32, bv zero32, [.slice none 0 0]].flatten)) sv3 rfl rfl rfl (fun a w => by kernel_rfl) fun a4 w4 B4_4 eq_B4_4 g4 z4 HB4_4 sv4 => ?_
  have ne_B4_4_B2_2 := nb_ne HB2_2 eq_B4_4
  have ne_B4_4_B3_3 := nb_ne HB3_3 eq_B4_4
  have lo_B4_4 := nb_lo HG eq_B4_4
  have ap_hr_B4_4 := nb_ap (hr.lt) eq_B4_4
  replace HB2_2 := rw_kn g4 HB2_2
  replace HB3_3 := rw_kn g4 HB3_3
  replace hr := hr.kn g4
  replace HG := grown_trans HG g4
  replace sv4 : Sv 32 [] [(4, .pointer (some ⟨B4_4, 0, none⟩)), (3, .pointer (some ⟨B3_3, 0, none⟩)), (2, .pointer (some ⟨B2_2, 0, none⟩)), (0, vval sa po (.slice ao ks.length cap)), (1, dval o)] a4 := sv4
  refine tl_alloc (T := 23) (Z := [.int .i64 0]) sv4 rfl rfl rfl (fun a w => by kernel_rfl) fun a5 w5 B5_5 eq_B5_5 g5 z5 HB5_5 sv5 => ?_
  have ne_B5_5_B2_2 := nb_ne HB2_2 eq_B5_5
  have ne_B5_5_B3_3 := nb_ne HB3_3 eq_B5_5
  have ne_B5_5_B4_4 := nb_ne HB4_4 eq_B5_5
  have lo_B5_5 := nb_lo HG eq_B5_5
  have ap_hr_B5_5 := nb_ap (hr.lt) eq_B5_5
  replace HB2_2 := rw_kn g5 HB2_2
  replace HB3_3 := rw_kn g5 HB3_3
  replace HB4_4 := rw_kn g5 HB4_4
  replace hr := hr.kn g5
  replace HG := grown_trans HG g5
  replace sv5 : Sv 32 [] [(5, .pointer (some ⟨B5_5, 0, none⟩)), (4, .pointer (some ⟨B4_4, 0, none⟩)), (3, .pointer (some ⟨B3_3, 0, none⟩)), (2, .pointer (some ⟨B2_2, 0, none⟩)), (0, vval sa po (.slice ao ks.length cap)), (1, dval o)] a5 := sv5
  have sv6 : Sv 32 [] [(5, .pointer (some ⟨B5_5, 0, none⟩)), (4, .pointer (some ⟨B4_4, 0, none⟩)), (3, .pointer (some ⟨B3_3, 0, none⟩)), (2, .pointer (some ⟨B2_2, 0, none⟩))] a5 := ⟨sv5.1, sv5.2.1, sv5.2.2.1, sv5.2.2.2.1, sv5.2.2.2.2.1, sv5.2.2.2.2.2.1, trivial⟩
  refine tl_nil ?_
  refine k1 _ _ ?_
  refine wp_seq_k fun K7 k7 => ?_
  refine wp_region_lit ?_
  refine tl_makeFunc sv6 rfl rfl rfl rfl rfl rfl fun a8 sv8 => ?_
  replace sv8 : Sv 32 [] [(8, .func (.func 72) #[] #[.pointer (some ⟨B4_4, 0, none⟩), .pointer (some ⟨B5_5, 0, none⟩)]), (5, .pointer (some ⟨B5_5, 0, none⟩)), (4, .pointer (some ⟨B4_4, 0, none⟩)), (3, .pointer (some ⟨B3_3, 0, none⟩)), (2, .pointer (some ⟨B2_2, 0, none⟩))] a8 := sv8
  refine tl_defer sv8 rfl (dd := { target := .fn (.func 72) #[.pointer (some ⟨B4_4, 0, none⟩), .pointer (some ⟨B5_5, 0, none⟩)], args := #[] }) rfl (by have e1 := sv8.ev (x := .tmp 8) rfl rfl; simp [execOp, resolve, Deferred.ofValue, e1]; try rfl) fun a9 sv9 => ?_
  have sv10 : Sv 32 [{ target := .fn (.func 72) #[.pointer (some ⟨B4_4, 0, none⟩), .pointer (some ⟨B5_5, 0, none⟩)], args := #[] }] [(5, .pointer (some ⟨B5_5, 0, none⟩)), (4, .pointer (some ⟨B4_4, 0, none⟩)), (3, .pointer (some ⟨B3_3, 0, none⟩)), (2, .pointer (some ⟨B2_2, 0, none⟩))] a9 := ⟨sv9.1, sv9.2.1, sv9.2.2.2.1, sv9.2.2.2.2.1, sv9.2.2.2.2.2.1, sv9.2.2.2.2.2.2.1, trivial⟩
  refine tl_nil ?_
  refine k7 _ _ ?_
  refine wp_seq_k fun K11 k11 => ?_
  refine wp_seq_k fun K12 k12 => ?_
  cases hv : vldV (ks.map VK.p)
  · refine wp_region_lit ?_
    refine sx_head (sv10.st w5) 3 [(9, Sp.is (vval sa po (.slice ao ks.length cap))), (10, Sp.is (.bool false)), (11, Sp.is (.bool true))] rfl (by kernel_rfl) (by kernel_rfl) (by kernel_rfl)
      ⟨xl rfl rfl rfl rfl rfl (tyVa hsa hpo (.slice ao ks.length cap) rfl) HB2_2 rfl, ox_call (Sp.is (.bool false)) [vval sa po (.slice ao ks.length cap)] rfl rfl trivial ⟨(oy rfl rfl), trivial⟩ (is_on fun W g => vvalid_B hsa hpo (hr.kn g) hv) (fun _ _ h => h) (enter_of Try.func45 (by kernel_rfl) rfl), ox_un rfl rfl trivial (oy rfl rfl) (fun _ => rn_not) (fun _ => rfl), trivial⟩ fun a13 w13 g13 st13 => ?_
    obtain ⟨hn13, hd13, e13_9, e13_10, e13_11, e13_5, e13_4, e13_3, e13_2, -⟩ := st13
    replace HB2_2 := rw_kn g13 HB2_2
    replace HB3_3 := rw_kn g13 HB3_3
    replace HB4_4 := rw_kn g13 HB4_4
    replace HB5_5 := rw_kn g13 HB5_5
    replace hr := hr.kn g13
    replace HG := grown_trans HG g13
    have sv13 : Sv 32 [{ target := .fn (.func 72) #[.pointer (some ⟨B4_4, 0, none⟩), .pointer (some ⟨B5_5, 0, none⟩)], args := #[] }] [(5, .pointer (some ⟨B5_5, 0, none⟩)), (4, .pointer (some ⟨B4_4, 0, none⟩)), (3, .pointer (some ⟨B3_3, 0, none⟩)), (2, .pointer (some ⟨B2_2, 0, none⟩)), (11, .bool true)] a13 := ⟨hn13, hd13, e13_5, e13_4, e13_3, e13_2, e13_11, trivial⟩
    refine tl_nil ?_
    refine k12 _ _ ?_
    refine cx_ifT sv13 rfl rfl ?_
    refine wp_seq_k fun K14 k14 => ?_
    refine wp_region_lit ?_
    refine sx_head (sv13.st w13) 1 [(12, Sp.is (vval zero32 zero32 (.slice none 0 0)))] rfl (by kernel_rfl) (by kernel_rfl) (by kernel_rfl)
      ⟨ox_build (vs := []) rfl rfl trivial trivial (fun _ => bV0 _) (fun _ => rfl), trivial⟩ fun a15 w15 g15 st15 => ?_
    obtain ⟨hn15, hd15, e15_12, e15_5, e15_4, e15_3, e15_2, e15_11, -⟩ := st15
    replace HB2_2 := rw_kn g15 HB2_2
    replace HB3_3 := rw_kn g15 HB3_3
    replace HB4_4 := rw_kn g15 HB4_4
    replace HB5_5 := rw_kn g15 HB5_5
    replace hr := hr.kn g15
    replace HG := grown_trans HG g15
    have sv15 : Sv 32 [{ target := .fn (.func 72) #[.pointer (some ⟨B4_4, 0, none⟩), .pointer (some ⟨B5_5, 0, none⟩)], args := #[] }] [(5, .pointer (some ⟨B5_5, 0, none⟩)), (4, .pointer (some ⟨B4_4, 0, none⟩)), (3, .pointer (some ⟨B3_3, 0, none⟩)), (2, .pointer (some ⟨B2_2, 0, none⟩)), (11, .bool true), (12, vval zero32 zero32 (.slice none 0 0))] a15 := ⟨hn15, hd15, e15_5, e15_4, e15_3, e15_2, e15_11, e15_12, trivial⟩
    refine tl_storeW sv15 rfl rfl rfl rfl rfl rfl rfl (tyVa zero32_dg zero32_dg (.slice none 0 0) rfl) HB4_4 (by first | rfl | simp [kcells, bv_length, zero32_len, zero32_dg.1, zero32_dg.1]) fun w16 g16 h16 => ?_
    replace HB2_2 := rw_st g16 HB2_2 (Ne.symm ne_B4_4_B2_2)
    replace HB3_3 := rw_st g16 HB3_3 (Ne.symm ne_B4_4_B3_3)
    replace HB5_5 := rw_st g16 HB5_5 ne_B5_5_B4_4
    replace hr := hr.offR g16 (fun k hk e => ap_hr_B4_4 k hk (Option.some.inj e).symm)
    replace HG := grown_newR HG g16 lo_B4_4
    replace HB4_4 := h16
    refine tl_storeW sv15 rfl rfl rfl rfl rfl rfl rfl (tyE 1) HB5_5 rfl fun w17 g17 h17 => ?_
    replace HB2_2 := rw_st g17 HB2_2 (Ne.symm ne_B5_5_B2_2)
    replace HB3_3 := rw_st g17 HB3_3 (Ne.symm ne_B5_5_B3_3)
    replace HB4_4 := rw_st g17 HB4_4 (Ne.symm ne_B5_5_B4_4)
    replace hr := hr.offR g17 (fun k hk e => ap_hr_B5_5 k hk (Option.some.inj e).symm)
    replace HG := grown_newR HG g17 lo_B5_5
    replace HB5_5 := h17
    have sv18 : Sv 32 [{ target := .fn (.func 72) #[.pointer (some ⟨B4_4, 0, none⟩), .pointer (some ⟨B5_5, 0, none⟩)], args := #[] }] [(5, .pointer (some ⟨B5_5, 0, none⟩)), (4, .pointer (some ⟨B4_4, 0, none⟩)), (3, .pointer (some ⟨B3_3, 0, none⟩)), (2, .pointer (some ⟨B2_2, 0, none⟩)), (11, .bool true)] a15 := ⟨sv15.1, sv15.2.1, sv15.2.2.1, sv15.2.2.2.1, sv15.2.2.2.2.1, sv15.2.2.2.2.2.1, sv15.2.2.2.2.2.2.1, trivial⟩
    refine tl_nil ?_
    refine k14 _ _ ?_
    refine wp_ret ?_
    repeat refine then_ret ?_
    refine cx_retD (fn := Try.f37) sv18 (res_cell2 (p := 4) (q := 5) Try.results37 sv18 rfl rfl rfl rfl (tyVa zero32_dg zero32_dg (.slice none 0 0) rfl) (tyE 1) HB4_4 HB5_5) (inv_of Try.func72 (by kernel_rfl) rfl _ _) (recDrop_walk _ _ _) ?_
    exact VRes.zero (by unfold drpO; rw [if_neg (by rw [hv]; simp)]) HG
  · obtain ⟨i, hi⟩ : ∃ i, pos (ks.map VK.p) o = i := ⟨_, rfl⟩
    have h64 : ks.length ≤ 64 := by have := (vldV_iff.1 hv).1; simpa using this
    refine wp_region_lit ?_
    refine sx_head (sv10.st w5) 3 [(9, Sp.is (vval sa po (.slice ao ks.length cap))), (10, Sp.is (.bool true)), (11, Sp.is (.bool false))] rfl (by kernel_rfl) (by kernel_rfl) (by kernel_rfl)
      ⟨xl rfl rfl rfl rfl rfl (tyVa hsa hpo (.slice ao ks.length cap) rfl) HB2_2 rfl, ox_call (Sp.is (.bool true)) [vval sa po (.slice ao ks.length cap)] rfl rfl trivial ⟨(oy rfl rfl), trivial⟩ (is_on fun W g => vvalid_B hsa hpo (hr.kn g) hv) (fun _ _ h => h) (enter_of Try.func45 (by kernel_rfl) rfl), ox_un rfl rfl trivial (oy rfl rfl) (fun _ => rn_not) (fun _ => rfl), trivial⟩ fun a19 w19 g19 st19 => ?_
    obtain ⟨hn19, hd19, e19_9, e19_10, e19_11, e19_5, e19_4, e19_3, e19_2, -⟩ := st19
    replace HB2_2 := rw_kn g19 HB2_2
    replace HB3_3 := rw_kn g19 HB3_3
    replace HB4_4 := rw_kn g19 HB4_4
    replace HB5_5 := rw_kn g19 HB5_5
    replace hr := hr.kn g19
    replace HG := grown_trans HG g19
    have sv19 : Sv 32 [{ target := .fn (.func 72) #[.pointer (some ⟨B4_4, 0, none⟩), .pointer (some ⟨B5_5, 0, none⟩)], args := #[] }] [(5, .pointer (some ⟨B5_5, 0, none⟩)), (4, .pointer (some ⟨B4_4, 0, none⟩)), (3, .pointer (some ⟨B3_3, 0, none⟩)), (2, .pointer (some ⟨B2_2, 0, none⟩)), (11, .bool false)] a19 := ⟨hn19, hd19, e19_5, e19_4, e19_3, e19_2, e19_11, trivial⟩
    refine tl_nil ?_
    refine k12 _ _ ?_
    refine cx_ifF sv19 rfl rfl ?_
    refine wp_skip ?_
    refine k11 _ _ ?_
    refine wp_seq_k fun K20 k20 => ?_
    cases hf : fnd (ks.map VK.p) o
    · refine wp_region_lit ?_
      refine sx_head (sv19.st w19) 6 [(14, Sp.is (vval sa po (.slice ao ks.length cap))), (15, Sp.is (dval o)), (16, Sp.is (.tuple #[.int .i64 ((i : Int)), .bool false])), (13, Sp.is (.tuple #[.int .i64 ((i : Int)), .bool false])), (17, Sp.is (.int .i64 ((i : Int)))), (18, Sp.is (.bool false))] rfl (by kernel_rfl) (by kernel_rfl) (by kernel_rfl)
        ⟨xl rfl rfl rfl rfl rfl (tyVa hsa hpo (.slice ao ks.length cap) rfl) HB2_2 rfl, xl rfl rfl rfl rfl rfl (tyD o ho.1) HB3_3 rfl, ox_call (Sp.is (.tuple #[.int .i64 ((i : Int)), .bool false])) [vval sa po (.slice ao ks.length cap), dval o] rfl rfl trivial ⟨(oy rfl rfl), (oy rfl rfl), trivial⟩ (is_on fun W g => find_B hsa hpo ho (hr.kn g) hv hf hi) (fun _ _ h => h) (enter_of Try.func70 (by kernel_rfl) rfl), xm rfl rfl rfl rfl rfl, ox_extract rfl rfl rfl trivial (fun _ _ h => ⟨_, _, h, rfl, rfl⟩), ox_extract rfl rfl rfl trivial (fun _ _ h => ⟨_, _, h, rfl, rfl⟩), trivial⟩ fun a21 w21 g21 st21 => ?_
      obtain ⟨hn21, hd21, e21_14, e21_15, e21_16, e21_13, e21_17, e21_18, e21_5, e21_4, e21_3, e21_2, e21_11, -⟩ := st21
      replace HB2_2 := rw_kn g21 HB2_2
      replace HB3_3 := rw_kn g21 HB3_3
      replace HB4_4 := rw_kn g21 HB4_4
      replace HB5_5 := rw_kn g21 HB5_5
      replace hr := hr.kn g21
      replace HG := grown_trans HG g21
      have sv21 : Sv 32 [{ target := .fn (.func 72) #[.pointer (some ⟨B4_4, 0, none⟩), .pointer (some ⟨B5_5, 0, none⟩)], args := #[] }] [(5, .pointer (some ⟨B5_5, 0, none⟩)), (4, .pointer (some ⟨B4_4, 0, none⟩)), (3, .pointer (some ⟨B3_3, 0, none⟩)), (2, .pointer (some ⟨B2_2, 0, none⟩)), (11, .bool false), (17, .int .i64 ((i : Int))), (18, .bool false)] a21 := ⟨hn21, hd21, e21_5, e21_4, e21_3, e21_2, e21_11, e21_17, e21_18, trivial⟩
      refine tl_assign sv21 rfl (.inl rfl) rfl rfl rfl rfl fun a22 sv22 => ?_
      replace sv22 : Sv 32 [{ target := .fn (.func 72) #[.pointer (some ⟨B4_4, 0, none⟩), .pointer (some ⟨B5_5, 0, none⟩)], args := #[] }] [(6, .int .i64 ((i : Int))), (5, .pointer (some ⟨B5_5, 0, none⟩)), (4, .pointer (some ⟨B4_4, 0, none⟩)), (3, .pointer (some ⟨B3_3, 0, none⟩)), (2, .pointer (some ⟨B2_2, 0, none⟩)), (11, .bool false), (17, .int .i64 ((i : Int))), (18, .bool false)] a22 := sv22
      refine tl_assign sv22 rfl (.inl rfl) rfl rfl rfl rfl fun a23 sv23 => ?_
      replace sv23 : Sv 32 [{ target := .fn (.func 72) #[.pointer (some ⟨B4_4, 0, none⟩), .pointer (some ⟨B5_5, 0, none⟩)], args := #[] }] [(7, .bool false), (6, .int .i64 ((i : Int))), (5, .pointer (some ⟨B5_5, 0, none⟩)), (4, .pointer (some ⟨B4_4, 0, none⟩)), (3, .pointer (some ⟨B3_3, 0, none⟩)), (2, .pointer (some ⟨B2_2, 0, none⟩)), (11, .bool false), (17, .int .i64 ((i : Int))), (18, .bool false)] a23 := sv23
      have sv24 : Sv 32 [{ target := .fn (.func 72) #[.pointer (some ⟨B4_4, 0, none⟩), .pointer (some ⟨B5_5, 0, none⟩)], args := #[] }] [(7, .bool false), (6, .int .i64 ((i : Int))), (5, .pointer (some ⟨B5_5, 0, none⟩)), (4, .pointer (some ⟨B4_4, 0, none⟩)), (2, .pointer (some ⟨B2_2, 0, none⟩)), (11, .bool false)] a23 := ⟨sv23.1, sv23.2.1, sv23.2.2.1, sv23.2.2.2.1, sv23.2.2.2.2.1, sv23.2.2.2.2.2.1, sv23.2.2.2.2.2.2.2.1, sv23.2.2.2.2.2.2.2.2.1, trivial⟩
      refine tl_nil ?_
      refine k20 _ _ ?_
      refine wp_seq_k fun K25 k25 => ?_
      refine wp_seq_k fun K26 k26 => ?_
      refine wp_region_lit ?_
      refine sx_head (sv24.st w21) 2 [(19, Sp.is (.bool false)), (20, Sp.is (.bool true))] rfl (by kernel_rfl) (by kernel_rfl) (by kernel_rfl)
        ⟨xm rfl rfl rfl rfl rfl, ox_un rfl rfl trivial (oy rfl rfl) (fun _ => rn_not) (fun _ => rfl), trivial⟩ fun a27 w27 g27 st27 => ?_
      obtain ⟨hn27, hd27, e27_19, e27_20, e27_7, e27_6, e27_5, e27_4, e27_2, e27_11, -⟩ := st27
      replace HB2_2 := rw_kn g27 HB2_2
      replace HB3_3 := rw_kn g27 HB3_3
      replace HB4_4 := rw_kn g27 HB4_4
      replace HB5_5 := rw_kn g27 HB5_5
      replace hr := hr.kn g27
      replace HG := grown_trans HG g27
      have sv27 : Sv 32 [{ target := .fn (.func 72) #[.pointer (some ⟨B4_4, 0, none⟩), .pointer (some ⟨B5_5, 0, none⟩)], args := #[] }] [(7, .bool false), (6, .int .i64 ((i : Int))), (5, .pointer (some ⟨B5_5, 0, none⟩)), (4, .pointer (some ⟨B4_4, 0, none⟩)), (2, .pointer (some ⟨B2_2, 0, none⟩)), (11, .bool false), (20, .bool true)] a27 := ⟨hn27, hd27, e27_7, e27_6, e27_5, e27_4, e27_2, e27_11, e27_20, trivial⟩
      refine tl_nil ?_
      refine k26 _ _ ?_
      refine cx_ifT sv27 rfl rfl ?_
      refine wp_seq_k fun K28 k28 => ?_
      refine wp_region_lit ?_
      refine sx_head (sv27.st w27) 1 [(21, Sp.is (vval zero32 zero32 (.slice none 0 0)))] rfl (by kernel_rfl) (by kernel_rfl) (by kernel_rfl)
        ⟨ox_build (vs := []) rfl rfl trivial trivial (fun _ => bV0 _) (fun _ => rfl), trivial⟩ fun a29 w29 g29 st29 => ?_
      obtain ⟨hn29, hd29, e29_21, e29_7, e29_6, e29_5, e29_4, e29_2, e29_11, e29_20, -⟩ := st29
      replace HB2_2 := rw_kn g29 HB2_2
      replace HB3_3 := rw_kn g29 HB3_3
      replace HB4_4 := rw_kn g29 HB4_4
      replace HB5_5 := rw_kn g29 HB5_5
      replace hr := hr.kn g29
      replace HG := grown_trans HG g29
      have sv29 : Sv 32 [{ target := .fn (.func 72) #[.pointer (some ⟨B4_4, 0, none⟩), .pointer (some ⟨B5_5, 0, none⟩)], args := #[] }] [(7, .bool false), (6, .int .i64 ((i : Int))), (5, .pointer (some ⟨B5_5, 0, none⟩)), (4, .pointer (some ⟨B4_4, 0, none⟩)), (2, .pointer (some ⟨B2_2, 0, none⟩)), (11, .bool false), (20, .bool true), (21, vval zero32 zero32 (.slice none 0 0))] a29 := ⟨hn29, hd29, e29_7, e29_6, e29_5, e29_4, e29_2, e29_11, e29_20, e29_21, trivial⟩
      refine tl_storeW sv29 rfl rfl rfl rfl rfl rfl rfl (tyVa zero32_dg zero32_dg (.slice none 0 0) rfl) HB4_4 (by first | rfl | simp [kcells, bv_length, zero32_len, zero32_dg.1, zero32_dg.1]) fun w30 g30 h30 => ?_
      replace HB2_2 := rw_st g30 HB2_2 (Ne.symm ne_B4_4_B2_2)
      replace HB3_3 := rw_st g30 HB3_3 (Ne.symm ne_B4_4_B3_3)
      replace HB5_5 := rw_st g30 HB5_5 ne_B5_5_B4_4
      replace hr := hr.offR g30 (fun k hk e => ap_hr_B4_4 k hk (Option.some.inj e).symm)
      replace HG := grown_newR HG g30 lo_B4_4
      replace HB4_4 := h30
      refine tl_storeW sv29 rfl rfl rfl rfl rfl rfl rfl (tyE 10) HB5_5 rfl fun w31 g31 h31 => ?_
      replace HB2_2 := rw_st g31 HB2_2 (Ne.symm ne_B5_5_B2_2)
      replace HB3_3 := rw_st g31 HB3_3 (Ne.symm ne_B5_5_B3_3)
      replace HB4_4 := rw_st g31 HB4_4 (Ne.symm ne_B5_5_B4_4)
      replace hr := hr.offR g31 (fun k hk e => ap_hr_B5_5 k hk (Option.some.inj e).symm)
      replace HG := grown_newR HG g31 lo_B5_5
      replace HB5_5 := h31
      have sv32 : Sv 32 [{ target := .fn (.func 72) #[.pointer (some ⟨B4_4, 0, none⟩), .pointer (some ⟨B5_5, 0, none⟩)], args := #[] }] [(7, .bool false), (6, .int .i64 ((i : Int))), (5, .pointer (some ⟨B5_5, 0, none⟩)), (4, .pointer (some ⟨B4_4, 0, none⟩)), (2, .pointer (some ⟨B2_2, 0, none⟩)), (11, .bool false), (20, .bool true)] a29 := ⟨sv29.1, sv29.2.1, sv29.2.2.1, sv29.2.2.2.1, sv29.2.2.2.2.1, sv29.2.2.2.2.2.1, sv29.2.2.2.2.2.2.1, sv29.2.2.2.2.2.2.2.1, sv29.2.2.2.2.2.2.2.2.1, trivial⟩
      refine tl_nil ?_
      refine k28 _ _ ?_
      refine wp_ret ?_
      repeat refine then_ret ?_
      refine cx_retD (fn := Try.f37) sv32 (res_cell2 (p := 4) (q := 5) Try.results37 sv32 rfl rfl rfl rfl (tyVa zero32_dg zero32_dg (.slice none 0 0) rfl) (tyE 10) HB4_4 HB5_5) (inv_of Try.func72 (by kernel_rfl) rfl _ _) (recDrop_walk _ _ _) ?_
      exact VRes.zero (by unfold drpO; rw [if_pos hv, if_neg (by rw [hf]; simp)]) HG
    · have hil : i < ks.length := by have := (fnd_at hf).1; rw [hi] at this; simpa using this
      obtain ⟨x, hx_x⟩ : ∃ x, ks[i]'hil = x := ⟨_, rfl⟩
      have htr : tr (ks.map VK.p) i = x.l := by rw [tr_map hil, hx_x]
      refine wp_region_lit ?_
      refine sx_head (sv19.st w19) 6 [(14, Sp.is (vval sa po (.slice ao ks.length cap))), (15, Sp.is (dval o)), (16, Sp.is (.tuple #[.int .i64 ((i : Int)), .bool true])), (13, Sp.is (.tuple #[.int .i64 ((i : Int)), .bool true])), (17, Sp.is (.int .i64 ((i : Int)))), (18, Sp.is (.bool true))] rfl (by kernel_rfl) (by kernel_rfl) (by kernel_rfl)
        ⟨xl rfl rfl rfl rfl rfl (tyVa hsa hpo (.slice ao ks.length cap) rfl) HB2_2 rfl, xl rfl rfl rfl rfl rfl (tyD o ho.1) HB3_3 rfl, ox_call (Sp.is (.tuple #[.int .i64 ((i : Int)), .bool true])) [vval sa po (.slice ao ks.length cap), dval o] rfl rfl trivial ⟨(oy rfl rfl), (oy rfl rfl), trivial⟩ (is_on fun W g => find_B hsa hpo ho (hr.kn g) hv hf hi) (fun _ _ h => h) (enter_of Try.func70 (by kernel_rfl) rfl), xm rfl rfl rfl rfl rfl, ox_extract rfl rfl rfl trivial (fun _ _ h => ⟨_, _, h, rfl, rfl⟩), ox_extract rfl rfl rfl trivial (fun _ _ h => ⟨_, _, h, rfl, rfl⟩), trivial⟩ fun a33 w33 g33 st33 => ?_
      obtain ⟨hn33, hd33, e33_14, e33_15, e33_16, e33_13, e33_17, e33_18, e33_5, e33_4, e33_3, e33_2, e33_11, -⟩ := st33
      replace HB2_2 := rw_kn g33 HB2_2
      replace HB3_3 := rw_kn g33 HB3_3
      replace HB4_4 := rw_kn g33 HB4_4
      replace HB5_5 := rw_kn g33 HB5_5
      replace hr := hr.kn g33
      replace HG := grown_trans HG g33
      have sv33 : Sv 32 [{ target := .fn (.func 72) #[.pointer (some ⟨B4_4, 0, none⟩), .pointer (some ⟨B5_5, 0, none⟩)], args := #[] }] [(5, .pointer (some ⟨B5_5, 0, none⟩)), (4, .pointer (some ⟨B4_4, 0, none⟩)), (3, .pointer (some ⟨B3_3, 0, none⟩)), (2, .pointer (some ⟨B2_2, 0, none⟩)), (11, .bool false), (17, .int .i64 ((i : Int))), (18, .bool true)] a33 := ⟨hn33, hd33, e33_5, e33_4, e33_3, e33_2, e33_11, e33_17, e33_18, trivial⟩
      refine tl_assign sv33 rfl (.inl rfl) rfl rfl rfl rfl fun a34 sv34 => ?_
      replace sv34 : Sv 32 [{ target := .fn (.func 72) #[.pointer (some ⟨B4_4, 0, none⟩), .pointer (some ⟨B5_5, 0, none⟩)], args := #[] }] [(6, .int .i64 ((i : Int))), (5, .pointer (some ⟨B5_5, 0, none⟩)), (4, .pointer (some ⟨B4_4, 0, none⟩)), (3, .pointer (some ⟨B3_3, 0, none⟩)), (2, .pointer (some ⟨B2_2, 0, none⟩)), (11, .bool false), (17, .int .i64 ((i : Int))), (18, .bool true)] a34 := sv34
      refine tl_assign sv34 rfl (.inl rfl) rfl rfl rfl rfl fun a35 sv35 => ?_
      replace sv35 : Sv 32 [{ target := .fn (.func 72) #[.pointer (some ⟨B4_4, 0, none⟩), .pointer (some ⟨B5_5, 0, none⟩)], args := #[] }] [(7, .bool true), (6, .int .i64 ((i : Int))), (5, .pointer (some ⟨B5_5, 0, none⟩)), (4, .pointer (some ⟨B4_4, 0, none⟩)), (3, .pointer (some ⟨B3_3, 0, none⟩)), (2, .pointer (some ⟨B2_2, 0, none⟩)), (11, .bool false), (17, .int .i64 ((i : Int))), (18, .bool true)] a35 := sv35
      have sv36 : Sv 32 [{ target := .fn (.func 72) #[.pointer (some ⟨B4_4, 0, none⟩), .pointer (some ⟨B5_5, 0, none⟩)], args := #[] }] [(7, .bool true), (6, .int .i64 ((i : Int))), (5, .pointer (some ⟨B5_5, 0, none⟩)), (4, .pointer (some ⟨B4_4, 0, none⟩)), (2, .pointer (some ⟨B2_2, 0, none⟩)), (11, .bool false)] a35 := ⟨sv35.1, sv35.2.1, sv35.2.2.1, sv35.2.2.2.1, sv35.2.2.2.2.1, sv35.2.2.2.2.2.1, sv35.2.2.2.2.2.2.2.1, sv35.2.2.2.2.2.2.2.2.1, trivial⟩
      refine tl_nil ?_
      refine k20 _ _ ?_
      refine wp_seq_k fun K37 k37 => ?_
      refine wp_seq_k fun K38 k38 => ?_
      refine wp_region_lit ?_
      refine sx_head (sv36.st w33) 2 [(19, Sp.is (.bool true)), (20, Sp.is (.bool false))] rfl (by kernel_rfl) (by kernel_rfl) (by kernel_rfl)
        ⟨xm rfl rfl rfl rfl rfl, ox_un rfl rfl trivial (oy rfl rfl) (fun _ => rn_not) (fun _ => rfl), trivial⟩ fun a39 w39 g39 st39 => ?_
      obtain ⟨hn39, hd39, e39_19, e39_20, e39_7, e39_6, e39_5, e39_4, e39_2, e39_11, -⟩ := st39
      replace HB2_2 := rw_kn g39 HB2_2
      replace HB3_3 := rw_kn g39 HB3_3
      replace HB4_4 := rw_kn g39 HB4_4
      replace HB5_5 := rw_kn g39 HB5_5
      replace hr := hr.kn g39
      replace HG := grown_trans HG g39
      have sv39 : Sv 32 [{ target := .fn (.func 72) #[.pointer (some ⟨B4_4, 0, none⟩), .pointer (some ⟨B5_5, 0, none⟩)], args := #[] }] [(7, .bool true), (6, .int .i64 ((i : Int))), (5, .pointer (some ⟨B5_5, 0, none⟩)), (4, .pointer (some ⟨B4_4, 0, none⟩)), (2, .pointer (some ⟨B2_2, 0, none⟩)), (11, .bool false), (20, .bool false)] a39 := ⟨hn39, hd39, e39_7, e39_6, e39_5, e39_4, e39_2, e39_11, e39_20, trivial⟩
      refine tl_nil ?_
      refine k38 _ _ ?_
      refine cx_ifF sv39 rfl rfl ?_
      refine wp_skip ?_
      refine k37 _ _ ?_
      refine wp_seq_k fun K40 k40 => ?_
      refine wp_region_lit ?_
      refine sx_head (sv39.st w39) 2 [(22, Sp.is (vval sa po (.slice ao ks.length cap))), (23, Sp.cln w39.heap.size sa po ks.length (ks.map VK.p))] rfl (by kernel_rfl) (by kernel_rfl) (by kernel_rfl)
        ⟨xl rfl rfl rfl rfl rfl (tyVa hsa hpo (.slice ao ks.length cap) rfl) HB2_2 rfl, ox_call (Sp.cln w39.heap.size sa po ks.length (ks.map VK.p)) [vval sa po (.slice ao ks.length cap)] rfl rfl trivial ⟨(oy rfl rfl), trivial⟩ (cloned_on hsa hpo hr h64) (fun _ _ h => h) (enter_of Try.func69 (by kernel_rfl) rfl), trivial⟩ fun a41 w41 g41 st41 => ?_
      obtain ⟨hn41, hd41, e41_22, e41_23, e41_7, e41_6, e41_5, e41_4, e41_2, e41_11, e41_20, -⟩ := st41
      obtain ⟨A, ms, e41_23q, hmp, ow, kr, frA, frK⟩ := e41_23
      have fr_ow : ∀ k, fpS (.slice ((some ⟨A, 0, none⟩)) ks.length ks.length) k → w39.heap.size ≤ k := fun k hk => (Option.some.inj hk) ▸ frA
      have fr_kr : ∀ k, fpKs ms k → w39.heap.size ≤ k := fun k hk => (frK k hk).1
      have ap_kr_ow : ∀ k, fpKs ms k → ¬ fpS (.slice ((some ⟨A, 0, none⟩)) ks.length ks.length) k := fun k hk e => (frK k hk).2 (Option.some.inj e).symm
      have ap_ow_B2_2 := fr_ap fr_ow HB2_2
      have ap_ow_B3_3 := fr_ap fr_ow HB3_3
      have ap_ow_B4_4 := fr_ap fr_ow HB4_4
      have ap_ow_B5_5 := fr_ap fr_ow HB5_5
      have ap_hr_ow : ∀ k, fpK (.slice ao ks.length cap) ks k → ¬ fpS (.slice ((some ⟨A, 0, none⟩)) ks.length ks.length) k := fun k hzr hk => absurd (hr.lt k hzr) (Nat.not_lt.2 (fr_ow k hk))
      have lo_ow : ∀ k, fpS (.slice ((some ⟨A, 0, none⟩)) ks.length ks.length) k → w.heap.size ≤ k := fun k hk => Nat.le_trans HG.size (fr_ow k hk)
      have ap_kr_B2_2 := fr_ap fr_kr HB2_2
      have ap_kr_B3_3 := fr_ap fr_kr HB3_3
      have ap_kr_B4_4 := fr_ap fr_kr HB4_4
      have ap_kr_B5_5 := fr_ap fr_kr HB5_5
      have lo_kr : ∀ k, fpKs ms k → w.heap.size ≤ k := fun k hk => Nat.le_trans HG.size (fr_kr k hk)
      replace HB2_2 := rw_kn g41 HB2_2
      replace HB3_3 := rw_kn g41 HB3_3
      replace HB4_4 := rw_kn g41 HB4_4
      replace HB5_5 := rw_kn g41 HB5_5
      replace hr := hr.kn g41
      replace HG := grown_trans HG g41
      have sv41 : Sv 32 [{ target := .fn (.func 72) #[.pointer (some ⟨B4_4, 0, none⟩), .pointer (some ⟨B5_5, 0, none⟩)], args := #[] }] [(7, .bool true), (6, .int .i64 ((i : Int))), (5, .pointer (some ⟨B5_5, 0, none⟩)), (4, .pointer (some ⟨B4_4, 0, none⟩)), (2, .pointer (some ⟨B2_2, 0, none⟩)), (11, .bool false), (20, .bool false), (23, vval sa po (.slice ((some ⟨A, 0, none⟩)) ks.length ks.length))] a41 := ⟨hn41, hd41, e41_7, e41_6, e41_5, e41_4, e41_2, e41_11, e41_20, e41_23q, trivial⟩
      refine tl_storeW sv41 rfl rfl rfl rfl rfl rfl rfl (tyVa hsa hpo (.slice ((some ⟨A, 0, none⟩)) ks.length ks.length) rfl) HB2_2 (by first | rfl | simp [kcells, bv_length, zero32_len, hsa.1, hpo.1, hsa.1, hpo.1]) fun w42 g42 h42 => ?_
      replace HB3_3 := rw_st g42 HB3_3 ne_B3_3_B2_2
      replace HB4_4 := rw_st g42 HB4_4 ne_B4_4_B2_2
      replace HB5_5 := rw_st g42 HB5_5 ne_B5_5_B2_2
      replace hr := hr.offR g42 (fun k hk e => ap_hr_B2_2 k hk (Option.some.inj e).symm)
      replace ow := ow.offR g42 (fun k hk e => ap_ow_B2_2 k hk (Option.some.inj e).symm)
      replace kr := kr.offR g42 (fun k hk e => ap_kr_B2_2 k hk (Option.some.inj e).symm)
      replace HG := grown_newR HG g42 lo_B2_2
      replace HB2_2 := h42
      have sv43 : Sv 32 [{ target := .fn (.func 72) #[.pointer (some ⟨B4_4, 0, none⟩), .pointer (some ⟨B5_5, 0, none⟩)], args := #[] }] [(7, .bool true), (6, .int .i64 ((i : Int))), (5, .pointer (some ⟨B5_5, 0, none⟩)), (4, .pointer (some ⟨B4_4, 0, none⟩)), (2, .pointer (some ⟨B2_2, 0, none⟩)), (11, .bool false), (20, .bool false)] a41 := ⟨sv41.1, sv41.2.1, sv41.2.2.1, sv41.2.2.2.1, sv41.2.2.2.2.1, sv41.2.2.2.2.2.1, sv41.2.2.2.2.2.2.1, sv41.2.2.2.2.2.2.2.1, sv41.2.2.2.2.2.2.2.2.1, trivial⟩
      refine tl_nil ?_
      refine k40 _ _ ?_
      refine wp_seq_k fun K44 k44 => ?_
      refine wp_region_lit ?_
      refine sx_head (sv43.st w42) 5 [(24, Sp.is (.pointer (some ⟨B2_2, 64, none⟩))), (25, Sp.is (.slice ((some ⟨A, 0, none⟩)) ks.length ks.length)), (26, Sp.is (.int .i64 ((i : Int)))), (27, Sp.is (.int .i64 ((i : Int)))), (28, Sp.is (.int .i64 (((i + 1 : Nat) : Int))))] rfl (by kernel_rfl) (by kernel_rfl) (by kernel_rfl)
        ⟨xf rfl rfl rfl rfl rfl (fun _ => by kernel_rfl) rfl, xp (i := 2) rfl rfl rfl rfl rfl (tyKs (.slice ((some ⟨A, 0, none⟩)) ks.length ks.length) rfl) HB2_2 rfl (by simp [bv_length, zero32_len, hsa.1, hpo.1]) rfl, xm rfl rfl rfl rfl rfl, xm rfl rfl rfl rfl rfl, ox_bin rfl rfl trivial (oy rfl rfl) rfl (fun _ => rn_add (by rw [wrap_i64 (by omega) (by omega)]; omega)) (fun _ => rfl), trivial⟩ fun a45 w45 g45 st45 => ?_
      obtain ⟨hn45, hd45, e45_24, e45_25, e45_26, e45_27, e45_28, e45_7, e45_6, e45_5, e45_4, e45_2, e45_11, e45_20, -⟩ := st45
      replace HB2_2 := rw_kn g45 HB2_2
      replace HB3_3 := rw_kn g45 HB3_3
      replace HB4_4 := rw_kn g45 HB4_4
      replace HB5_5 := rw_kn g45 HB5_5
      replace hr := hr.kn g45
      replace ow := ow.kn g45
      replace kr := kr.kn g45
      replace HG := grown_trans HG g45
      have sv45 : Sv 32 [{ target := .fn (.func 72) #[.pointer (some ⟨B4_4, 0, none⟩), .pointer (some ⟨B5_5, 0, none⟩)], args := #[] }] [(7, .bool true), (6, .int .i64 ((i : Int))), (5, .pointer (some ⟨B5_5, 0, none⟩)), (4, .pointer (some ⟨B4_4, 0, none⟩)), (2, .pointer (some ⟨B2_2, 0, none⟩)), (11, .bool false), (20, .bool false), (25, .slice ((some ⟨A, 0, none⟩)) ks.length ks.length), (26, .int .i64 ((i : Int))), (28, .int .i64 (((i + 1 : Nat) : Int)))] a45 := ⟨hn45, hd45, e45_7, e45_6, e45_5, e45_4, e45_2, e45_11, e45_20, e45_25, e45_26, e45_28, trivial⟩
      have hml : ks.length = ms.length := Own.rdk ow
      refine tl_call sv45 rfl rfl rfl rfl rfl (del_call hml ow hil h64) (enter_of Try.func73 (by kernel_rfl) rfl) fun a46 v46 w46 hD sv46 => ?_
      obtain ⟨aoD, capD, rfl, od, gD, frD⟩ := hD
      have ap_od_B2_2 : ∀ k, fpS (.slice aoD (ks.length - 1) capD) k → k ≠ B2_2 := fun k hk => (frD k hk).elim (fun e => e ▸ ap_ow_B2_2 A rfl) (fun h => Nat.ne_of_gt (Nat.lt_of_lt_of_le (Array.getElem?_eq_some_iff.1 HB2_2).1 h))
      have ap_od_B3_3 : ∀ k, fpS (.slice aoD (ks.length - 1) capD) k → k ≠ B3_3 := fun k hk => (frD k hk).elim (fun e => e ▸ ap_ow_B3_3 A rfl) (fun h => Nat.ne_of_gt (Nat.lt_of_lt_of_le (Array.getElem?_eq_some_iff.1 HB3_3).1 h))
      have ap_od_B4_4 : ∀ k, fpS (.slice aoD (ks.length - 1) capD) k → k ≠ B4_4 := fun k hk => (frD k hk).elim (fun e => e ▸ ap_ow_B4_4 A rfl) (fun h => Nat.ne_of_gt (Nat.lt_of_lt_of_le (Array.getElem?_eq_some_iff.1 HB4_4).1 h))
      have ap_od_B5_5 : ∀ k, fpS (.slice aoD (ks.length - 1) capD) k → k ≠ B5_5 := fun k hk => (frD k hk).elim (fun e => e ▸ ap_ow_B5_5 A rfl) (fun h => Nat.ne_of_gt (Nat.lt_of_lt_of_le (Array.getElem?_eq_some_iff.1 HB5_5).1 h))
      have lo_od : ∀ k, fpS (.slice aoD (ks.length - 1) capD) k → w.heap.size ≤ k := fun k hk => (frD k hk).elim (fun e => e ▸ lo_ow A rfl) (fun h => Nat.le_trans HG.size h)
      replace HB2_2 := row_of gD HB2_2 (fun e => ap_ow_B2_2 _ (rfl) (Option.some.inj e).symm)
      replace HB3_3 := row_of gD HB3_3 (fun e => ap_ow_B3_3 _ (rfl) (Option.some.inj e).symm)
      replace HB4_4 := row_of gD HB4_4 (fun e => ap_ow_B4_4 _ (rfl) (Option.some.inj e).symm)
      replace HB5_5 := row_of gD HB5_5 (fun e => ap_ow_B5_5 _ (rfl) (Option.some.inj e).symm)
      replace hr := hr.offR gD (fun k hk e => ap_hr_ow k hk (e))
      replace kr := kr.offR gD (fun k hk e => ap_kr_ow k hk (e))
      replace HG := grown_from HG gD fun k e => lo_ow k (e)
      replace sv46 : Sv 32 [{ target := .fn (.func 72) #[.pointer (some ⟨B4_4, 0, none⟩), .pointer (some ⟨B5_5, 0, none⟩)], args := #[] }] [(29, .slice aoD (ks.length - 1) capD), (7, .bool true), (6, .int .i64 ((i : Int))), (5, .pointer (some ⟨B5_5, 0, none⟩)), (4, .pointer (some ⟨B4_4, 0, none⟩)), (2, .pointer (some ⟨B2_2, 0, none⟩)), (11, .bool false), (20, .bool false), (25, .slice ((some ⟨A, 0, none⟩)) ks.length ks.length), (26, .int .i64 ((i : Int))), (28, .int .i64 (((i + 1 : Nat) : Int)))] a46 := sv46
      have sv47 : Sv 32 [{ target := .fn (.func 72) #[.pointer (some ⟨B4_4, 0, none⟩), .pointer (some ⟨B5_5, 0, none⟩)], args := #[] }] [(29, .slice aoD (ks.length - 1) capD), (7, .bool true), (5, .pointer (some ⟨B5_5, 0, none⟩)), (4, .pointer (some ⟨B4_4, 0, none⟩)), (2, .pointer (some ⟨B2_2, 0, none⟩)), (11, .bool false), (20, .bool false)] a46 := ⟨sv46.1, sv46.2.1, sv46.2.2.1, sv46.2.2.2.1, sv46.2.2.2.2.2.1, sv46.2.2.2.2.2.2.1, sv46.2.2.2.2.2.2.2.1, sv46.2.2.2.2.2.2.2.2.1, sv46.2.2.2.2.2.2.2.2.2.1, trivial⟩
      refine sx_head (sv47.st w46) 1 [(30, Sp.is (.pointer (some ⟨B2_2, 64, none⟩)))] rfl (by kernel_rfl) (by kernel_rfl) (by kernel_rfl)
        ⟨xf rfl rfl rfl rfl rfl (fun _ => by kernel_rfl) rfl, trivial⟩ fun a48 w48 g48 st48 => ?_
      obtain ⟨hn48, hd48, e48_30, e48_29, e48_7, e48_5, e48_4, e48_2, e48_11, e48_20, -⟩ := st48
      replace HB2_2 := rw_kn g48 HB2_2
      replace HB3_3 := rw_kn g48 HB3_3
      replace HB4_4 := rw_kn g48 HB4_4
      replace HB5_5 := rw_kn g48 HB5_5
      replace hr := hr.kn g48
      replace kr := kr.kn g48
      replace od := od.kn g48
      replace HG := grown_trans HG g48
      have sv48 : Sv 32 [{ target := .fn (.func 72) #[.pointer (some ⟨B4_4, 0, none⟩), .pointer (some ⟨B5_5, 0, none⟩)], args := #[] }] [(29, .slice aoD (ks.length - 1) capD), (7, .bool true), (5, .pointer (some ⟨B5_5, 0, none⟩)), (4, .pointer (some ⟨B4_4, 0, none⟩)), (2, .pointer (some ⟨B2_2, 0, none⟩)), (11, .bool false), (20, .bool false), (30, .pointer (some ⟨B2_2, 64, none⟩))] a48 := ⟨hn48, hd48, e48_29, e48_7, e48_5, e48_4, e48_2, e48_11, e48_20, e48_30, trivial⟩
      refine tl_storeP (L := [bv sa, bv po, [.slice ((some ⟨A, 0, none⟩)) ks.length ks.length]]) (i := 2) sv48 rfl rfl rfl rfl rfl rfl rfl (tyKs (.slice aoD (ks.length - 1) capD) rfl) HB2_2 rfl (by simp [bv_length, zero32_len, hsa.1, hpo.1]) rfl fun w49 g49 h49 => ?_
      replace HB3_3 := rw_st g49 HB3_3 ne_B3_3_B2_2
      replace HB4_4 := rw_st g49 HB4_4 ne_B4_4_B2_2
      replace HB5_5 := rw_st g49 HB5_5 ne_B5_5_B2_2
      replace hr := hr.offR g49 (fun k hk e => ap_hr_B2_2 k hk (Option.some.inj e).symm)
      replace kr := kr.offR g49 (fun k hk e => ap_kr_B2_2 k hk (Option.some.inj e).symm)
      replace od := od.offR g49 (fun k hk e => ap_od_B2_2 k hk (Option.some.inj e).symm)
      replace HG := grown_newR HG g49 lo_B2_2
      replace HB2_2 := h49
      have sv50 : Sv 32 [{ target := .fn (.func 72) #[.pointer (some ⟨B4_4, 0, none⟩), .pointer (some ⟨B5_5, 0, none⟩)], args := #[] }] [(7, .bool true), (5, .pointer (some ⟨B5_5, 0, none⟩)), (4, .pointer (some ⟨B4_4, 0, none⟩)), (2, .pointer (some ⟨B2_2, 0, none⟩)), (11, .bool false), (20, .bool false)] a48 := ⟨sv48.1, sv48.2.1, sv48.2.2.2.1, sv48.2.2.2.2.1, sv48.2.2.2.2.2.1, sv48.2.2.2.2.2.2.1, sv48.2.2.2.2.2.2.2.1, sv48.2.2.2.2.2.2.2.2.1, trivial⟩
      refine tl_nil ?_
      refine k44 _ _ ?_
      refine wp_seq_k fun K51 k51 => ?_
      refine wp_region_lit ?_
      refine sx_head (sv50.st w49) 1 [(31, Sp.is (vval sa po (.slice aoD (ks.length - 1) capD)))] rfl (by kernel_rfl) (by kernel_rfl) (by kernel_rfl)
        ⟨xl rfl rfl rfl rfl rfl (tyVa hsa hpo (.slice aoD (ks.length - 1) capD) rfl) HB2_2 rfl, trivial⟩ fun a52 w52 g52 st52 => ?_
      obtain ⟨hn52, hd52, e52_31, e52_7, e52_5, e52_4, e52_2, e52_11, e52_20, -⟩ := st52
      replace HB2_2 := rw_kn g52 HB2_2
      replace HB3_3 := rw_kn g52 HB3_3
      replace HB4_4 := rw_kn g52 HB4_4
      replace HB5_5 := rw_kn g52 HB5_5
      replace hr := hr.kn g52
      replace kr := kr.kn g52
      replace od := od.kn g52
      replace HG := grown_trans HG g52
      have sv52 : Sv 32 [{ target := .fn (.func 72) #[.pointer (some ⟨B4_4, 0, none⟩), .pointer (some ⟨B5_5, 0, none⟩)], args := #[] }] [(7, .bool true), (5, .pointer (some ⟨B5_5, 0, none⟩)), (4, .pointer (some ⟨B4_4, 0, none⟩)), (2, .pointer (some ⟨B2_2, 0, none⟩)), (11, .bool false), (20, .bool false), (31, vval sa po (.slice aoD (ks.length - 1) capD))] a52 := ⟨hn52, hd52, e52_7, e52_5, e52_4, e52_2, e52_11, e52_20, e52_31, trivial⟩
      refine tl_storeW sv52 rfl rfl rfl rfl rfl rfl rfl (tyVa hsa hpo (.slice aoD (ks.length - 1) capD) rfl) HB4_4 (by first | rfl | simp [kcells, bv_length, zero32_len, hsa.1, hpo.1]) fun w53 g53 h53 => ?_
      replace HB2_2 := rw_st g53 HB2_2 (Ne.symm ne_B4_4_B2_2)
      replace HB3_3 := rw_st g53 HB3_3 (Ne.symm ne_B4_4_B3_3)
      replace HB5_5 := rw_st g53 HB5_5 ne_B5_5_B4_4
      replace hr := hr.offR g53 (fun k hk e => ap_hr_B4_4 k hk (Option.some.inj e).symm)
      replace kr := kr.offR g53 (fun k hk e => ap_kr_B4_4 k hk (Option.some.inj e).symm)
      replace od := od.offR g53 (fun k hk e => ap_od_B4_4 k hk (Option.some.inj e).symm)
      replace HG := grown_newR HG g53 lo_B4_4
      replace HB4_4 := h53
      refine tl_storeW sv52 rfl rfl rfl rfl rfl rfl rfl (tyE 0) HB5_5 rfl fun w54 g54 h54 => ?_
      replace HB2_2 := rw_st g54 HB2_2 (Ne.symm ne_B5_5_B2_2)
      replace HB3_3 := rw_st g54 HB3_3 (Ne.symm ne_B5_5_B3_3)
      replace HB4_4 := rw_st g54 HB4_4 (Ne.symm ne_B5_5_B4_4)
      replace hr := hr.offR g54 (fun k hk e => ap_hr_B5_5 k hk (Option.some.inj e).symm)
      replace kr := kr.offR g54 (fun k hk e => ap_kr_B5_5 k hk (Option.some.inj e).symm)
      replace od := od.offR g54 (fun k hk e => ap_od_B5_5 k hk (Option.some.inj e).symm)
      replace HG := grown_newR HG g54 lo_B5_5
      replace HB5_5 := h54
      have sv55 : Sv 32 [{ target := .fn (.func 72) #[.pointer (some ⟨B4_4, 0, none⟩), .pointer (some ⟨B5_5, 0, none⟩)], args := #[] }] [(7, .bool true), (5, .pointer (some ⟨B5_5, 0, none⟩)), (4, .pointer (some ⟨B4_4, 0, none⟩)), (2, .pointer (some ⟨B2_2, 0, none⟩)), (11, .bool false), (20, .bool false)] a52 := ⟨sv52.1, sv52.2.1, sv52.2.2.1, sv52.2.2.2.1, sv52.2.2.2.2.1, sv52.2.2.2.2.2.1, sv52.2.2.2.2.2.2.1, sv52.2.2.2.2.2.2.2.1, trivial⟩
      refine tl_nil ?_
      refine k51 _ _ ?_
      refine wp_ret ?_
      repeat refine then_ret ?_
      refine cx_retD (fn := Try.f37) sv55 (res_cell2 (p := 4) (q := 5) Try.results37 sv55 rfl rfl rfl rfl (tyVa hsa hpo (.slice aoD (ks.length - 1) capD) rfl) (tyE 0) HB4_4 HB5_5) (inv_of Try.func72 (by kernel_rfl) rfl _ _) (recDrop_walk _ _ _) ?_
      exact VRes.mk (P := dropV (ks.map VK.p) o) (by unfold drpO; rw [if_pos hv, if_pos hf]) (map_del hmp hi) od (KsT.del kr i) HG
end Go.Proofs.Yteakoleceoclkaa
