/- Key trees: the law KeytreeRaw. (printed by gen_l11.py) -/
import Derived.Test.YteakoleceoclkaaSK
import Derived.Test.YteakoleceoclkaaK20
namespace Go.Proofs.Yteakoleceoclkaa
open Go.RowKit Go.Shelf
set_option linter.unusedSimpArgs false
set_option linter.unusedVariables false
set_option maxRecDepth 100000 in
set_option maxHeartbeats 4000000 in
theorem raw_walk (l : List Nd) (ao : Option Addr) (cap : Nat) (a : Int) (w : World) (hs : RdT w (.slice ao l.length cap) l) :
    Calls Try.prog 11 #[.agg #[.slice ao l.length cap], .int .i64 a] w fun e w' => e = .returned (.bool true) ∧ w.grownBy w' none := by
  have ob := hs.2.2.1
  obtain ⟨r, hr⟩ : ∃ r, leafOf l a = r := ⟨_, rfl⟩
  have hrd : Dg r.1 := by rw [← hr]; exact leafOf_dg hs.2.1 a
  obtain ⟨q, hq⟩ : ∃ q, punOf l a = q := ⟨_, rfl⟩
  refine cx_enter Try.func11 rfl Try.ntmps11 rfl fun a0 sv0 => ?_
  have HG := World.grownBy.refl w none
  replace sv0 : Sv 77 [] [(0, .agg #[.slice ao l.length cap]), (1, .int .i64 a)] a0 := sv0
  refine wp_seq_k fun K1 k1 => ?_
  refine wp_region_lit ?_
  refine tl_box sv0 rfl rfl rfl rfl rfl rfl (tyT (.slice ao l.length cap) rfl) fun a2 w2 B2_2 eq_B2_2 g2 z2 HB2_2 sv2 => ?_
  have lo_B2_2 : w.heap.size ≤ B2_2 := Nat.le_trans HG.size (Nat.le_of_eq eq_B2_2.symm)
  replace hs := hs.kn g2
  replace HG := grown_trans HG g2
  replace sv2 : Sv 77 [] [(2, .pointer (some ⟨B2_2, 0, none⟩)), (0, .agg #[.slice ao l.length cap]), (1, .int .i64 a)] a2 := sv2
  refine tl_assign sv2 rfl (.inl rfl) rfl rfl rfl rfl fun a3 sv3 => ?_
  replace sv3 : Sv 77 [] [(4, .bool false), (2, .pointer (some ⟨B2_2, 0, none⟩)), (0, .agg #[.slice ao l.length cap]), (1, .int .i64 a)] a3 := sv3
  have sv4 : Sv 77 [] [(4, .bool false), (2, .pointer (some ⟨B2_2, 0, none⟩)), (1, .int .i64 a)] a3 := ⟨sv3.1, sv3.2.1, sv3.2.2.1, sv3.2.2.2.1, sv3.2.2.2.2.2.1, trivial⟩
  refine tl_nil ?_
  refine k1 _ _ ?_
  refine wp_seq_k fun K5 k5 => ?_
  refine wp_seq_k fun K6 k6 => ?_
  by_cases hbig : 30 < (l.length : Int)
  · refine wp_region_lit ?_
    refine sx_head (sv4.st w2) 4 [(13, Sp.is (.pointer (some ⟨B2_2, 0, none⟩))), (14, Sp.is (.slice ao l.length cap)), (15, Sp.is (.int .i64 ((l.length : Nat)))), (16, Sp.is (.bool true))] rfl (by kernel_rfl) (by kernel_rfl) (by kernel_rfl)
      ⟨ox_field rfl rfl trivial ⟨rfl, fun _ _ h => h⟩ (fun _ => by kernel_rfl) (fun _ => rfl),
        ox_load rfl rfl trivial ⟨rfl, fun _ _ h => h⟩ (fun _ g => loadsAt (tyNs (.slice ao l.length cap) rfl) (range_part (L := [[.slice ao l.length cap]]) (i := 0) (row_of g HB2_2 (by simp)) rfl rfl)) (fun _ => rfl),
        ox_len (Try.underlying32) rfl rfl trivial ⟨rfl, fun _ _ h => h⟩ (fun _ => rfl),
        ox_bin rfl rfl trivial ⟨rfl, fun _ _ h => h⟩ rfl (fun _ => rn_gtr (by simpa using hbig)) (fun _ => rfl),
        trivial⟩ fun a7 w7 g7 st7 => ?_
    obtain ⟨hn7, hd7, e7_13, e7_14, e7_15, e7_16, e7_4, e7_2, e7_1, -⟩ := st7
    replace HB2_2 := row_of g7 HB2_2 (by simp)
    replace hs := hs.kn g7
    replace HG := grown_trans HG g7
    have sv7 : Sv 77 [] [(4, .bool false), (2, .pointer (some ⟨B2_2, 0, none⟩)), (1, .int .i64 a), (16, .bool true)] a7 := ⟨hn7, hd7, e7_4, e7_2, e7_1, e7_16, trivial⟩
    refine tl_nil ?_
    refine k6 _ _ ?_
    refine cx_ifT sv7 rfl rfl ?_
    refine wp_seq_k fun K8 k8 => ?_
    refine wp_region_lit ?_
    refine sx_head (sv7.st w7) 1 [(17, Sp.is (.bool true))] rfl (by kernel_rfl) (by kernel_rfl) (by kernel_rfl)
      ⟨ox_call (Sp.is (.bool true)) [] rfl rfl trivial trivial (is_on fun W g => awake_walk W) (fun _ _ h => h) (enter_of Try.func19 (by kernel_rfl) rfl),
        trivial⟩ fun a9 w9 g9 st9 => ?_
    obtain ⟨hn9, hd9, e9_17, e9_4, e9_2, e9_1, e9_16, -⟩ := st9
    replace HB2_2 := row_of g9 HB2_2 (by simp)
    replace hs := hs.kn g9
    replace HG := grown_trans HG g9
    have sv9 : Sv 77 [] [(4, .bool false), (2, .pointer (some ⟨B2_2, 0, none⟩)), (1, .int .i64 a), (16, .bool true), (17, .bool true)] a9 := ⟨hn9, hd9, e9_4, e9_2, e9_1, e9_16, e9_17, trivial⟩
    refine tl_assign sv9 rfl (.inl rfl) rfl rfl rfl rfl fun a10 sv10 => ?_
    replace sv10 : Sv 77 [] [(4, .bool true), (2, .pointer (some ⟨B2_2, 0, none⟩)), (1, .int .i64 a), (16, .bool true), (17, .bool true)] a10 := sv10
    have sv11 : Sv 77 [] [(4, .bool true), (2, .pointer (some ⟨B2_2, 0, none⟩)), (1, .int .i64 a), (16, .bool true)] a10 := ⟨sv10.1, sv10.2.1, sv10.2.2.1, sv10.2.2.2.1, sv10.2.2.2.2.1, sv10.2.2.2.2.2.1, trivial⟩
    refine tl_nil ?_
    refine k8 _ _ ?_
    refine wp_ret ?_
    repeat refine then_ret ?_
    refine cx_ret (fn := Try.f11) sv11 (res_tmp (p := 4) Try.results11 sv11 rfl rfl) ?_
    exact ⟨rfl, HG⟩
  · refine wp_region_lit ?_
    refine sx_head (sv4.st w2) 4 [(13, Sp.is (.pointer (some ⟨B2_2, 0, none⟩))), (14, Sp.is (.slice ao l.length cap)), (15, Sp.is (.int .i64 ((l.length : Nat)))), (16, Sp.is (.bool false))] rfl (by kernel_rfl) (by kernel_rfl) (by kernel_rfl)
      ⟨ox_field rfl rfl trivial ⟨rfl, fun _ _ h => h⟩ (fun _ => by kernel_rfl) (fun _ => rfl),
        ox_load rfl rfl trivial ⟨rfl, fun _ _ h => h⟩ (fun _ g => loadsAt (tyNs (.slice ao l.length cap) rfl) (range_part (L := [[.slice ao l.length cap]]) (i := 0) (row_of g HB2_2 (by simp)) rfl rfl)) (fun _ => rfl),
        ox_len (Try.underlying32) rfl rfl trivial ⟨rfl, fun _ _ h => h⟩ (fun _ => rfl),
        ox_bin rfl rfl trivial ⟨rfl, fun _ _ h => h⟩ rfl (fun _ => rn_gtr (by simpa using hbig)) (fun _ => rfl),
        trivial⟩ fun a12 w12 g12 st12 => ?_
    obtain ⟨hn12, hd12, e12_13, e12_14, e12_15, e12_16, e12_4, e12_2, e12_1, -⟩ := st12
    replace HB2_2 := row_of g12 HB2_2 (by simp)
    replace hs := hs.kn g12
    replace HG := grown_trans HG g12
    have sv12 : Sv 77 [] [(4, .bool false), (2, .pointer (some ⟨B2_2, 0, none⟩)), (1, .int .i64 a), (16, .bool false)] a12 := ⟨hn12, hd12, e12_4, e12_2, e12_1, e12_16, trivial⟩
    refine tl_nil ?_
    refine k6 _ _ ?_
    refine cx_ifF sv12 rfl rfl ?_
    refine wp_skip ?_
    refine k5 _ _ ?_
    refine wp_seq_k fun K13 k13 => ?_
    refine wp_region_lit ?_
    refine sx_head (sv12.st w12) 6 [(19, Sp.is (.agg #[.slice ao l.length cap])), (20, Sp.is (.int .i64 a)), (21, Sp.is (.tuple #[dval r.1, .int .i64 r.2])), (18, Sp.is (.tuple #[dval r.1, .int .i64 r.2])), (22, Sp.is (dval r.1)), (23, Sp.is (.int .i64 r.2))] rfl (by kernel_rfl) (by kernel_rfl) (by kernel_rfl)
      ⟨ox_load rfl rfl trivial ⟨rfl, fun _ _ h => h⟩ (fun _ g => loadsAt (tyT (.slice ao l.length cap) rfl) (rangeAt_row (row_of g HB2_2 (by simp)))) (fun _ => rfl),
        ox_move 1 20 (.inl rfl) rfl rfl trivial (fun _ _ h => h),
        ox_call (Sp.is (.tuple #[dval r.1, .int .i64 r.2])) [.agg #[.slice ao l.length cap], .int .i64 a] rfl rfl trivial ⟨⟨rfl, fun _ _ h => h⟩, ⟨rfl, fun _ _ h => h⟩, trivial⟩ (is_on fun W g => leaf_call hr (hs.kn g)) (fun _ _ h => h) (enter_of Try.func20 (by kernel_rfl) rfl),
        ox_move 21 18 (.inl rfl) rfl rfl trivial (fun _ _ h => h),
        ox_extract rfl rfl rfl trivial (fun _ _ h => ⟨_, _, h, rfl, rfl⟩),
        ox_extract rfl rfl rfl trivial (fun _ _ h => ⟨_, _, h, rfl, rfl⟩),
        trivial⟩ fun a14 w14 g14 st14 => ?_
    obtain ⟨hn14, hd14, e14_19, e14_20, e14_21, e14_18, e14_22, e14_23, e14_4, e14_2, e14_1, e14_16, -⟩ := st14
    replace HB2_2 := row_of g14 HB2_2 (by simp)
    replace hs := hs.kn g14
    replace HG := grown_trans HG g14
    have sv14 : Sv 77 [] [(4, .bool false), (2, .pointer (some ⟨B2_2, 0, none⟩)), (1, .int .i64 a), (16, .bool false), (22, dval r.1), (23, .int .i64 r.2)] a14 := ⟨hn14, hd14, e14_4, e14_2, e14_1, e14_16, e14_22, e14_23, trivial⟩
    refine tl_alloc (T := 29) (Z := (bv zero32)) sv14 rfl rfl rfl (fun a w => by kernel_rfl) fun a15 w15 B5_15 eq_B5_15 g15 z15 HB5_15 sv15 => ?_
    have ne_B5_15_B2_2 : B5_15 ≠ B2_2 := Nat.ne_of_gt (Nat.lt_of_lt_of_le (Array.getElem?_eq_some_iff.1 HB2_2).1 (Nat.le_of_eq eq_B5_15.symm))
    have lo_B5_15 : w.heap.size ≤ B5_15 := Nat.le_trans HG.size (Nat.le_of_eq eq_B5_15.symm)
    replace HB2_2 := row_of g15 HB2_2 (by simp)
    replace hs := hs.kn g15
    replace HG := grown_trans HG g15
    replace sv15 : Sv 77 [] [(5, .pointer (some ⟨B5_15, 0, none⟩)), (4, .bool false), (2, .pointer (some ⟨B2_2, 0, none⟩)), (1, .int .i64 a), (16, .bool false), (22, dval r.1), (23, .int .i64 r.2)] a15 := sv15
    refine tl_storeW sv15 rfl rfl rfl rfl rfl rfl rfl (tyD r.1 hrd.1) HB5_15 (lenD hrd) fun w16 g16 h16 => ?_
    replace HB2_2 := row_of g16 HB2_2 (fun e => (Ne.symm ne_B5_15_B2_2) (Option.some.inj e))
    replace hs := RdT.off hs g16 (fun k hk => Nat.ne_of_lt (Nat.lt_of_lt_of_le (ob k hk) lo_B5_15))
    replace HG := grown_newR HG g16 lo_B5_15
    replace HB5_15 := h16
    refine tl_assign sv15 rfl (.inl rfl) rfl rfl rfl rfl fun a17 sv17 => ?_
    replace sv17 : Sv 77 [] [(6, .int .i64 r.2), (5, .pointer (some ⟨B5_15, 0, none⟩)), (4, .bool false), (2, .pointer (some ⟨B2_2, 0, none⟩)), (1, .int .i64 a), (16, .bool false), (22, dval r.1), (23, .int .i64 r.2)] a17 := sv17
    have sv18 : Sv 77 [] [(6, .int .i64 r.2), (5, .pointer (some ⟨B5_15, 0, none⟩)), (4, .bool false), (2, .pointer (some ⟨B2_2, 0, none⟩)), (1, .int .i64 a), (16, .bool false)] a17 := ⟨sv17.1, sv17.2.1, sv17.2.2.1, sv17.2.2.2.1, sv17.2.2.2.2.1, sv17.2.2.2.2.2.1, sv17.2.2.2.2.2.2.1, sv17.2.2.2.2.2.2.2.1, trivial⟩
    refine tl_nil ?_
    refine k13 _ _ ?_
    refine wp_seq_k fun K19 k19 => ?_
    refine wp_region_lit ?_
    refine sx_head (sv18.st w16) 6 [(25, Sp.is (.agg #[.slice ao l.length cap])), (26, Sp.is (.int .i64 a)), (27, Sp.is (.tuple #[dval r.1, .int .i64 r.2])), (24, Sp.is (.tuple #[dval r.1, .int .i64 r.2])), (28, Sp.is (dval r.1)), (29, Sp.is (.int .i64 r.2))] rfl (by kernel_rfl) (by kernel_rfl) (by kernel_rfl)
      ⟨ox_load rfl rfl trivial ⟨rfl, fun _ _ h => h⟩ (fun _ g => loadsAt (tyT (.slice ao l.length cap) rfl) (rangeAt_row (row_of g HB2_2 (by simp)))) (fun _ => rfl),
        ox_move 1 26 (.inl rfl) rfl rfl trivial (fun _ _ h => h),
        ox_call (Sp.is (.tuple #[dval r.1, .int .i64 r.2])) [.agg #[.slice ao l.length cap], .int .i64 a] rfl rfl trivial ⟨⟨rfl, fun _ _ h => h⟩, ⟨rfl, fun _ _ h => h⟩, trivial⟩ (is_on fun W g => rleaf_call hr (hs.kn g)) (fun _ _ h => h) (enter_of Try.func22 (by kernel_rfl) rfl),
        ox_move 27 24 (.inl rfl) rfl rfl trivial (fun _ _ h => h),
        ox_extract rfl rfl rfl trivial (fun _ _ h => ⟨_, _, h, rfl, rfl⟩),
        ox_extract rfl rfl rfl trivial (fun _ _ h => ⟨_, _, h, rfl, rfl⟩),
        trivial⟩ fun a20 w20 g20 st20 => ?_
    obtain ⟨hn20, hd20, e20_25, e20_26, e20_27, e20_24, e20_28, e20_29, e20_6, e20_5, e20_4, e20_2, e20_1, e20_16, -⟩ := st20
    replace HB2_2 := row_of g20 HB2_2 (by simp)
    replace HB5_15 := row_of g20 HB5_15 (by simp)
    replace hs := hs.kn g20
    replace HG := grown_trans HG g20
    have sv20 : Sv 77 [] [(6, .int .i64 r.2), (5, .pointer (some ⟨B5_15, 0, none⟩)), (4, .bool false), (2, .pointer (some ⟨B2_2, 0, none⟩)), (1, .int .i64 a), (16, .bool false), (28, dval r.1), (29, .int .i64 r.2)] a20 := ⟨hn20, hd20, e20_6, e20_5, e20_4, e20_2, e20_1, e20_16, e20_28, e20_29, trivial⟩
    refine tl_alloc (T := 29) (Z := (bv zero32)) sv20 rfl rfl rfl (fun a w => by kernel_rfl) fun a21 w21 B7_21 eq_B7_21 g21 z21 HB7_21 sv21 => ?_
    have ne_B7_21_B2_2 : B7_21 ≠ B2_2 := Nat.ne_of_gt (Nat.lt_of_lt_of_le (Array.getElem?_eq_some_iff.1 HB2_2).1 (Nat.le_of_eq eq_B7_21.symm))
    have ne_B7_21_B5_15 : B7_21 ≠ B5_15 := Nat.ne_of_gt (Nat.lt_of_lt_of_le (Array.getElem?_eq_some_iff.1 HB5_15).1 (Nat.le_of_eq eq_B7_21.symm))
    have lo_B7_21 : w.heap.size ≤ B7_21 := Nat.le_trans HG.size (Nat.le_of_eq eq_B7_21.symm)
    replace HB2_2 := row_of g21 HB2_2 (by simp)
    replace HB5_15 := row_of g21 HB5_15 (by simp)
    replace hs := hs.kn g21
    replace HG := grown_trans HG g21
    replace sv21 : Sv 77 [] [(7, .pointer (some ⟨B7_21, 0, none⟩)), (6, .int .i64 r.2), (5, .pointer (some ⟨B5_15, 0, none⟩)), (4, .bool false), (2, .pointer (some ⟨B2_2, 0, none⟩)), (1, .int .i64 a), (16, .bool false), (28, dval r.1), (29, .int .i64 r.2)] a21 := sv21
    refine tl_storeW sv21 rfl rfl rfl rfl rfl rfl rfl (tyD r.1 hrd.1) HB7_21 (lenD hrd) fun w22 g22 h22 => ?_
    replace HB2_2 := row_of g22 HB2_2 (fun e => (Ne.symm ne_B7_21_B2_2) (Option.some.inj e))
    replace HB5_15 := row_of g22 HB5_15 (fun e => (Ne.symm ne_B7_21_B5_15) (Option.some.inj e))
    replace hs := RdT.off hs g22 (fun k hk => Nat.ne_of_lt (Nat.lt_of_lt_of_le (ob k hk) lo_B7_21))
    replace HG := grown_newR HG g22 lo_B7_21
    replace HB7_21 := h22
    refine tl_assign sv21 rfl (.inl rfl) rfl rfl rfl rfl fun a23 sv23 => ?_
    replace sv23 : Sv 77 [] [(8, .int .i64 r.2), (7, .pointer (some ⟨B7_21, 0, none⟩)), (6, .int .i64 r.2), (5, .pointer (some ⟨B5_15, 0, none⟩)), (4, .bool false), (2, .pointer (some ⟨B2_2, 0, none⟩)), (1, .int .i64 a), (16, .bool false), (28, dval r.1), (29, .int .i64 r.2)] a23 := sv23
    have sv24 : Sv 77 [] [(8, .int .i64 r.2), (7, .pointer (some ⟨B7_21, 0, none⟩)), (6, .int .i64 r.2), (5, .pointer (some ⟨B5_15, 0, none⟩)), (4, .bool false), (2, .pointer (some ⟨B2_2, 0, none⟩)), (1, .int .i64 a), (16, .bool false)] a23 := ⟨sv23.1, sv23.2.1, sv23.2.2.1, sv23.2.2.2.1, sv23.2.2.2.2.1, sv23.2.2.2.2.2.1, sv23.2.2.2.2.2.2.1, sv23.2.2.2.2.2.2.2.1, sv23.2.2.2.2.2.2.2.2.1, sv23.2.2.2.2.2.2.2.2.2.1, trivial⟩
    refine tl_nil ?_
    refine k19 _ _ ?_
    refine wp_seq_k fun K25 k25 => ?_
    refine wp_region_lit ?_
    refine sx_head (sv24.st w22) 6 [(31, Sp.is (.agg #[.slice ao l.length cap])), (32, Sp.is (.int .i64 a)), (33, Sp.punc q), (30, Sp.punc q), (34, Sp.tree q), (35, Sp.is (.int .i64 q.2))] rfl (by kernel_rfl) (by kernel_rfl) (by kernel_rfl)
      ⟨ox_load rfl rfl trivial ⟨rfl, fun _ _ h => h⟩ (fun _ g => loadsAt (tyT (.slice ao l.length cap) rfl) (rangeAt_row (row_of g HB2_2 (by simp)))) (fun _ => rfl),
        ox_move 1 32 (.inl rfl) rfl rfl trivial (fun _ _ h => h),
        ox_call (Sp.punc q) [.agg #[.slice ao l.length cap], .int .i64 a] rfl rfl trivial ⟨⟨rfl, fun _ _ h => h⟩, ⟨rfl, fun _ _ h => h⟩, trivial⟩ (punct_on hq hs) (fun _ _ h => h) (enter_of Try.func24 (by kernel_rfl) rfl),
        ox_move 33 30 (.inl rfl) rfl rfl trivial (fun _ _ h => h),
        ox_extract rfl rfl rfl trivial (fun w u h => punc_tree w u h),
        ox_extract rfl rfl rfl trivial (fun w u h => punc_err w u h),
        trivial⟩ fun a26 w26 g26 st26 => ?_
    obtain ⟨hn26, hd26, e26_31, e26_32, e26_33, e26_30, e26_34, e26_35, e26_8, e26_7, e26_6, e26_5, e26_4, e26_2, e26_1, e26_16, -⟩ := st26
    obtain ⟨ao27, cap27, e26_34q, ht27⟩ := e26_34
    replace HB2_2 := row_of g26 HB2_2 (by simp)
    replace HB5_15 := row_of g26 HB5_15 (by simp)
    replace HB7_21 := row_of g26 HB7_21 (by simp)
    replace hs := hs.kn g26
    replace HG := grown_trans HG g26
    have sv26 : Sv 77 [] [(8, .int .i64 r.2), (7, .pointer (some ⟨B7_21, 0, none⟩)), (6, .int .i64 r.2), (5, .pointer (some ⟨B5_15, 0, none⟩)), (4, .bool false), (2, .pointer (some ⟨B2_2, 0, none⟩)), (1, .int .i64 a), (16, .bool false), (34, .agg #[.slice ao27 (q).1.length cap27]), (35, .int .i64 q.2)] a26 := ⟨hn26, hd26, e26_8, e26_7, e26_6, e26_5, e26_4, e26_2, e26_1, e26_16, e26_34q, e26_35, trivial⟩
    refine tl_alloc (T := 34) (Z := [.slice none 0 0]) sv26 rfl rfl rfl (fun a w => by kernel_rfl) fun a28 w28 B9_28 eq_B9_28 g28 z28 HB9_28 sv28 => ?_
    have ne_B9_28_B2_2 : B9_28 ≠ B2_2 := Nat.ne_of_gt (Nat.lt_of_lt_of_le (Array.getElem?_eq_some_iff.1 HB2_2).1 (Nat.le_of_eq eq_B9_28.symm))
    have ne_B9_28_B5_15 : B9_28 ≠ B5_15 := Nat.ne_of_gt (Nat.lt_of_lt_of_le (Array.getElem?_eq_some_iff.1 HB5_15).1 (Nat.le_of_eq eq_B9_28.symm))
    have ne_B9_28_B7_21 : B9_28 ≠ B7_21 := Nat.ne_of_gt (Nat.lt_of_lt_of_le (Array.getElem?_eq_some_iff.1 HB7_21).1 (Nat.le_of_eq eq_B9_28.symm))
    have lo_B9_28 : w.heap.size ≤ B9_28 := Nat.le_trans HG.size (Nat.le_of_eq eq_B9_28.symm)
    replace HB2_2 := row_of g28 HB2_2 (by simp)
    replace HB5_15 := row_of g28 HB5_15 (by simp)
    replace HB7_21 := row_of g28 HB7_21 (by simp)
    replace hs := hs.kn g28
    replace ht27 := ht27.kn g28
    replace HG := grown_trans HG g28
    replace sv28 : Sv 77 [] [(9, .pointer (some ⟨B9_28, 0, none⟩)), (8, .int .i64 r.2), (7, .pointer (some ⟨B7_21, 0, none⟩)), (6, .int .i64 r.2), (5, .pointer (some ⟨B5_15, 0, none⟩)), (4, .bool false), (2, .pointer (some ⟨B2_2, 0, none⟩)), (1, .int .i64 a), (16, .bool false), (34, .agg #[.slice ao27 (q).1.length cap27]), (35, .int .i64 q.2)] a28 := sv28
    refine tl_storeW sv28 rfl rfl rfl rfl rfl rfl rfl (tyT (.slice ao27 (q).1.length cap27) rfl) HB9_28 rfl fun w29 g29 h29 => ?_
    replace HB2_2 := row_of g29 HB2_2 (fun e => (Ne.symm ne_B9_28_B2_2) (Option.some.inj e))
    replace HB5_15 := row_of g29 HB5_15 (fun e => (Ne.symm ne_B9_28_B5_15) (Option.some.inj e))
    replace HB7_21 := row_of g29 HB7_21 (fun e => (Ne.symm ne_B9_28_B7_21) (Option.some.inj e))
    replace hs := RdT.off hs g29 (fun k hk => Nat.ne_of_lt (Nat.lt_of_lt_of_le (ob k hk) lo_B9_28))
    replace ht27 := RdT.aside ht27 HB9_28 (fun _ _ => by simp) g29
    replace HG := grown_newR HG g29 lo_B9_28
    replace HB9_28 := h29
    refine tl_assign sv28 rfl (.inl rfl) rfl rfl rfl rfl fun a30 sv30 => ?_
    replace sv30 : Sv 77 [] [(10, .int .i64 q.2), (9, .pointer (some ⟨B9_28, 0, none⟩)), (8, .int .i64 r.2), (7, .pointer (some ⟨B7_21, 0, none⟩)), (6, .int .i64 r.2), (5, .pointer (some ⟨B5_15, 0, none⟩)), (4, .bool false), (2, .pointer (some ⟨B2_2, 0, none⟩)), (1, .int .i64 a), (16, .bool false), (34, .agg #[.slice ao27 (q).1.length cap27]), (35, .int .i64 q.2)] a30 := sv30
    have sv31 : Sv 77 [] [(10, .int .i64 q.2), (9, .pointer (some ⟨B9_28, 0, none⟩)), (8, .int .i64 r.2), (7, .pointer (some ⟨B7_21, 0, none⟩)), (6, .int .i64 r.2), (5, .pointer (some ⟨B5_15, 0, none⟩)), (4, .bool false), (2, .pointer (some ⟨B2_2, 0, none⟩)), (1, .int .i64 a), (16, .bool false)] a30 := ⟨sv30.1, sv30.2.1, sv30.2.2.1, sv30.2.2.2.1, sv30.2.2.2.2.1, sv30.2.2.2.2.2.1, sv30.2.2.2.2.2.2.1, sv30.2.2.2.2.2.2.2.1, sv30.2.2.2.2.2.2.2.2.1, sv30.2.2.2.2.2.2.2.2.2.1, sv30.2.2.2.2.2.2.2.2.2.2.1, sv30.2.2.2.2.2.2.2.2.2.2.2.1, trivial⟩
    refine tl_nil ?_
    refine k25 _ _ ?_
    refine wp_seq_k fun K32 k32 => ?_
    refine wp_region_lit ?_
    refine sx_head (sv31.st w29) 6 [(37, Sp.is (.agg #[.slice ao l.length cap])), (38, Sp.is (.int .i64 a)), (39, Sp.punc q), (36, Sp.punc q), (40, Sp.tree q), (41, Sp.is (.int .i64 q.2))] rfl (by kernel_rfl) (by kernel_rfl) (by kernel_rfl)
      ⟨ox_load rfl rfl trivial ⟨rfl, fun _ _ h => h⟩ (fun _ g => loadsAt (tyT (.slice ao l.length cap) rfl) (rangeAt_row (row_of g HB2_2 (by simp)))) (fun _ => rfl),
        ox_move 1 38 (.inl rfl) rfl rfl trivial (fun _ _ h => h),
        ox_call (Sp.punc q) [.agg #[.slice ao l.length cap], .int .i64 a] rfl rfl trivial ⟨⟨rfl, fun _ _ h => h⟩, ⟨rfl, fun _ _ h => h⟩, trivial⟩ (rpunct_on hq hs) (fun _ _ h => h) (enter_of Try.func25 (by kernel_rfl) rfl),
        ox_move 39 36 (.inl rfl) rfl rfl trivial (fun _ _ h => h),
        ox_extract rfl rfl rfl trivial (fun w u h => punc_tree w u h),
        ox_extract rfl rfl rfl trivial (fun w u h => punc_err w u h),
        trivial⟩ fun a33 w33 g33 st33 => ?_
    obtain ⟨hn33, hd33, e33_37, e33_38, e33_39, e33_36, e33_40, e33_41, e33_10, e33_9, e33_8, e33_7, e33_6, e33_5, e33_4, e33_2, e33_1, e33_16, -⟩ := st33
    obtain ⟨ao34, cap34, e33_40q, ht34⟩ := e33_40
    replace HB2_2 := row_of g33 HB2_2 (by simp)
    replace HB5_15 := row_of g33 HB5_15 (by simp)
    replace HB7_21 := row_of g33 HB7_21 (by simp)
    replace HB9_28 := row_of g33 HB9_28 (by simp)
    replace hs := hs.kn g33
    replace ht27 := ht27.kn g33
    replace HG := grown_trans HG g33
    have sv33 : Sv 77 [] [(10, .int .i64 q.2), (9, .pointer (some ⟨B9_28, 0, none⟩)), (8, .int .i64 r.2), (7, .pointer (some ⟨B7_21, 0, none⟩)), (6, .int .i64 r.2), (5, .pointer (some ⟨B5_15, 0, none⟩)), (4, .bool false), (2, .pointer (some ⟨B2_2, 0, none⟩)), (1, .int .i64 a), (16, .bool false), (40, .agg #[.slice ao34 (q).1.length cap34]), (41, .int .i64 q.2)] a33 := ⟨hn33, hd33, e33_10, e33_9, e33_8, e33_7, e33_6, e33_5, e33_4, e33_2, e33_1, e33_16, e33_40q, e33_41, trivial⟩
    refine tl_alloc (T := 34) (Z := [.slice none 0 0]) sv33 rfl rfl rfl (fun a w => by kernel_rfl) fun a35 w35 B11_35 eq_B11_35 g35 z35 HB11_35 sv35 => ?_
    have ne_B11_35_B2_2 : B11_35 ≠ B2_2 := Nat.ne_of_gt (Nat.lt_of_lt_of_le (Array.getElem?_eq_some_iff.1 HB2_2).1 (Nat.le_of_eq eq_B11_35.symm))
    have ne_B11_35_B5_15 : B11_35 ≠ B5_15 := Nat.ne_of_gt (Nat.lt_of_lt_of_le (Array.getElem?_eq_some_iff.1 HB5_15).1 (Nat.le_of_eq eq_B11_35.symm))
    have ne_B11_35_B7_21 : B11_35 ≠ B7_21 := Nat.ne_of_gt (Nat.lt_of_lt_of_le (Array.getElem?_eq_some_iff.1 HB7_21).1 (Nat.le_of_eq eq_B11_35.symm))
    have ne_B11_35_B9_28 : B11_35 ≠ B9_28 := Nat.ne_of_gt (Nat.lt_of_lt_of_le (Array.getElem?_eq_some_iff.1 HB9_28).1 (Nat.le_of_eq eq_B11_35.symm))
    have lo_B11_35 : w.heap.size ≤ B11_35 := Nat.le_trans HG.size (Nat.le_of_eq eq_B11_35.symm)
    replace HB2_2 := row_of g35 HB2_2 (by simp)
    replace HB5_15 := row_of g35 HB5_15 (by simp)
    replace HB7_21 := row_of g35 HB7_21 (by simp)
    replace HB9_28 := row_of g35 HB9_28 (by simp)
    replace hs := hs.kn g35
    replace ht27 := ht27.kn g35
    replace ht34 := ht34.kn g35
    replace HG := grown_trans HG g35
    replace sv35 : Sv 77 [] [(11, .pointer (some ⟨B11_35, 0, none⟩)), (10, .int .i64 q.2), (9, .pointer (some ⟨B9_28, 0, none⟩)), (8, .int .i64 r.2), (7, .pointer (some ⟨B7_21, 0, none⟩)), (6, .int .i64 r.2), (5, .pointer (some ⟨B5_15, 0, none⟩)), (4, .bool false), (2, .pointer (some ⟨B2_2, 0, none⟩)), (1, .int .i64 a), (16, .bool false), (40, .agg #[.slice ao34 (q).1.length cap34]), (41, .int .i64 q.2)] a35 := sv35
    refine tl_storeW sv35 rfl rfl rfl rfl rfl rfl rfl (tyT (.slice ao34 (q).1.length cap34) rfl) HB11_35 rfl fun w36 g36 h36 => ?_
    replace HB2_2 := row_of g36 HB2_2 (fun e => (Ne.symm ne_B11_35_B2_2) (Option.some.inj e))
    replace HB5_15 := row_of g36 HB5_15 (fun e => (Ne.symm ne_B11_35_B5_15) (Option.some.inj e))
    replace HB7_21 := row_of g36 HB7_21 (fun e => (Ne.symm ne_B11_35_B7_21) (Option.some.inj e))
    replace HB9_28 := row_of g36 HB9_28 (fun e => (Ne.symm ne_B11_35_B9_28) (Option.some.inj e))
    replace hs := RdT.off hs g36 (fun k hk => Nat.ne_of_lt (Nat.lt_of_lt_of_le (ob k hk) lo_B11_35))
    replace ht27 := RdT.aside ht27 HB11_35 (fun _ _ => by simp) g36
    replace ht34 := RdT.aside ht34 HB11_35 (fun _ _ => by simp) g36
    replace HG := grown_newR HG g36 lo_B11_35
    replace HB11_35 := h36
    refine tl_assign sv35 rfl (.inl rfl) rfl rfl rfl rfl fun a37 sv37 => ?_
    replace sv37 : Sv 77 [] [(12, .int .i64 q.2), (11, .pointer (some ⟨B11_35, 0, none⟩)), (10, .int .i64 q.2), (9, .pointer (some ⟨B9_28, 0, none⟩)), (8, .int .i64 r.2), (7, .pointer (some ⟨B7_21, 0, none⟩)), (6, .int .i64 r.2), (5, .pointer (some ⟨B5_15, 0, none⟩)), (4, .bool false), (2, .pointer (some ⟨B2_2, 0, none⟩)), (1, .int .i64 a), (16, .bool false), (40, .agg #[.slice ao34 (q).1.length cap34]), (41, .int .i64 q.2)] a37 := sv37
    have sv38 : Sv 77 [] [(12, .int .i64 q.2), (11, .pointer (some ⟨B11_35, 0, none⟩)), (10, .int .i64 q.2), (9, .pointer (some ⟨B9_28, 0, none⟩)), (8, .int .i64 r.2), (7, .pointer (some ⟨B7_21, 0, none⟩)), (6, .int .i64 r.2), (5, .pointer (some ⟨B5_15, 0, none⟩)), (4, .bool false), (2, .pointer (some ⟨B2_2, 0, none⟩)), (1, .int .i64 a), (16, .bool false)] a37 := ⟨sv37.1, sv37.2.1, sv37.2.2.1, sv37.2.2.2.1, sv37.2.2.2.2.1, sv37.2.2.2.2.2.1, sv37.2.2.2.2.2.2.1, sv37.2.2.2.2.2.2.2.1, sv37.2.2.2.2.2.2.2.2.1, sv37.2.2.2.2.2.2.2.2.2.1, sv37.2.2.2.2.2.2.2.2.2.2.1, sv37.2.2.2.2.2.2.2.2.2.2.2.1, sv37.2.2.2.2.2.2.2.2.2.2.2.2.1, sv37.2.2.2.2.2.2.2.2.2.2.2.2.2.1, trivial⟩
    refine tl_nil ?_
    refine k32 _ _ ?_
    refine wp_seq_k fun K39 k39 => ?_
    have sv40c : Sv 77 [] [(12, .int .i64 q.2), (11, .pointer (some ⟨B11_35, 0, none⟩)), (10, .int .i64 q.2), (9, .pointer (some ⟨B9_28, 0, none⟩)), (8, .int .i64 r.2), (7, .pointer (some ⟨B7_21, 0, none⟩)), (6, .int .i64 r.2), (5, .pointer (some ⟨B5_15, 0, none⟩)), (2, .pointer (some ⟨B2_2, 0, none⟩)), (1, .int .i64 a), (16, .bool false)] a37 := ⟨sv38.1, sv38.2.1, sv38.2.2.1, sv38.2.2.2.1, sv38.2.2.2.2.1, sv38.2.2.2.2.2.1, sv38.2.2.2.2.2.2.1, sv38.2.2.2.2.2.2.2.1, sv38.2.2.2.2.2.2.2.2.1, sv38.2.2.2.2.2.2.2.2.2.1, sv38.2.2.2.2.2.2.2.2.2.2.2.1, sv38.2.2.2.2.2.2.2.2.2.2.2.2.1, sv38.2.2.2.2.2.2.2.2.2.2.2.2.2.1, trivial⟩
    refine rx_all (sv40c.st w36) (by kernel_rfl) [(42, Sp.is (.agg #[.slice ao l.length cap])), (43, Sp.is (.bool (vld l))), (44, Sp.is (.agg #[.slice ao l.length cap])), (45, Sp.is (.bool (vld l))), (46, Sp.is (.bool true)), (47, Sp.is (.bool true)), (48, Sp.is (dval r.1)), (49, Sp.is (dval r.1)), (50, Sp.is (.bool true)), (51, Sp.is (.bool true)), (52, Sp.is (.bool true)), (53, Sp.is (.int .i64 r.2)), (54, Sp.is (.int .i64 r.2)), (55, Sp.is (.bool true)), (56, Sp.is (.bool true)), (57, Sp.is (.bool true)), (58, Sp.is (.agg #[.slice ao27 (q).1.length cap27])), (59, Sp.is (.agg #[.slice ao34 (q).1.length cap34])), (60, Sp.is (.bool true)), (61, Sp.is (.bool true)), (62, Sp.is (.bool true)), (63, Sp.is (.int .i64 q.2)), (64, Sp.is (.int .i64 q.2)), (65, Sp.is (.bool true)), (66, Sp.is (.bool true)), (67, Sp.is (.bool true)), (68, Sp.is (.agg #[.slice ao l.length cap])), (69, Sp.gp (gaps l)), (70, Sp.is (.agg #[.slice ao l.length cap])), (71, Sp.gp (gaps l)), (72, Sp.is (.bool true)), (73, Sp.is (.bool true)), (74, Sp.is (.bool true)), (75, Sp.is (.bool true)), (76, Sp.is (.bool true)), (4, Sp.is (.bool true))] rfl (by kernel_rfl) (by kernel_rfl) (by kernel_rfl)
      ⟨ox_load rfl rfl trivial ⟨rfl, fun _ _ h => h⟩ (fun _ g => loadsAt (tyT (.slice ao l.length cap) rfl) (rangeAt_row (row_of g HB2_2 (by simp)))) (fun _ => rfl),
        ox_call (Sp.is (.bool (vld l))) [.agg #[.slice ao l.length cap]] rfl rfl trivial ⟨⟨rfl, fun _ _ h => h⟩, trivial⟩ (is_on fun W g => valid_call (hs.kn g)) (fun _ _ h => h) (enter_of Try.func27 (by kernel_rfl) rfl),
        ox_load rfl rfl trivial ⟨rfl, fun _ _ h => h⟩ (fun _ g => loadsAt (tyT (.slice ao l.length cap) rfl) (rangeAt_row (row_of g HB2_2 (by simp)))) (fun _ => rfl),
        ox_call (Sp.is (.bool (vld l))) [.agg #[.slice ao l.length cap]] rfl rfl trivial ⟨⟨rfl, fun _ _ h => h⟩, trivial⟩ (is_on fun W g => rvalid_call (hs.kn g)) (fun _ _ h => h) (enter_of Try.func33 (by kernel_rfl) rfl),
        ox_bin rfl rfl trivial ⟨rfl, fun _ _ h => h⟩ ⟨rfl, fun _ _ h => h⟩ (fun _ => rn_eqlB (by simp)) (fun _ => rfl),
        ox_move 46 47 (.inl rfl) rfl rfl trivial (fun _ _ h => h),
        ox_load rfl rfl ⟨47, rfl, rfl, fun _ _ h => h⟩ ⟨rfl, fun _ _ h => h⟩ (fun _ g => loadsAt (tyD r.1 hrd.1) (rangeAt_row (row_of g HB5_15 (by simp)))) (fun _ => rfl),
        ox_load rfl rfl ⟨47, rfl, rfl, fun _ _ h => h⟩ ⟨rfl, fun _ _ h => h⟩ (fun _ g => loadsAt (tyD r.1 hrd.1) (rangeAt_row (row_of g HB7_21 (by simp)))) (fun _ => rfl),
        ox_bin rfl rfl ⟨47, rfl, rfl, fun _ _ h => h⟩ ⟨rfl, fun _ _ h => h⟩ ⟨rfl, fun _ _ h => h⟩ (fun _ => by simpa using (dig_eqb hrd hrd _ _ _).1) (fun _ => rfl),
        ox_pick rfl rfl trivial ⟨rfl, fun _ _ h => h⟩ ⟨rfl, fun _ _ h => h⟩ (fun _ => rfl),
        ox_move 51 52 (.inl rfl) rfl rfl trivial (fun _ _ h => h),
        ox_move 6 53 (.inl rfl) rfl rfl ⟨52, rfl, rfl, fun _ _ h => h⟩ (fun _ _ h => h),
        ox_move 8 54 (.inl rfl) rfl rfl ⟨52, rfl, rfl, fun _ _ h => h⟩ (fun _ _ h => h),
        ox_bin rfl rfl ⟨52, rfl, rfl, fun _ _ h => h⟩ ⟨rfl, fun _ _ h => h⟩ ⟨rfl, fun _ _ h => h⟩ (fun _ => rn_eql (by simp)) (fun _ => rfl),
        ox_pick rfl rfl trivial ⟨rfl, fun _ _ h => h⟩ ⟨rfl, fun _ _ h => h⟩ (fun _ => rfl),
        ox_move 56 57 (.inl rfl) rfl rfl trivial (fun _ _ h => h),
        ox_load rfl rfl ⟨57, rfl, rfl, fun _ _ h => h⟩ ⟨rfl, fun _ _ h => h⟩ (fun _ g => loadsAt (tyT (.slice ao27 (q).1.length cap27) rfl) (rangeAt_row (row_of g HB9_28 (by simp)))) (fun _ => rfl),
        ox_load rfl rfl ⟨57, rfl, rfl, fun _ _ h => h⟩ ⟨rfl, fun _ _ h => h⟩ (fun _ g => loadsAt (tyT (.slice ao34 (q).1.length cap34) rfl) (rangeAt_row (row_of g HB11_35 (by simp)))) (fun _ => rfl),
        ox_call (Sp.is (.bool true)) [.agg #[.slice ao27 (q).1.length cap27], .agg #[.slice ao34 (q).1.length cap34]] rfl rfl ⟨57, rfl, rfl, fun _ _ h => h⟩ ⟨⟨rfl, fun _ _ h => h⟩, ⟨rfl, fun _ _ h => h⟩, trivial⟩ (is_on fun W g => sameTree_walk (ht27.kn g) (ht34.kn g)) (fun _ _ h => h) (enter_of Try.func26 (by kernel_rfl) rfl),
        ox_pick rfl rfl trivial ⟨rfl, fun _ _ h => h⟩ ⟨rfl, fun _ _ h => h⟩ (fun _ => rfl),
        ox_move 61 62 (.inl rfl) rfl rfl trivial (fun _ _ h => h),
        ox_move 10 63 (.inl rfl) rfl rfl ⟨62, rfl, rfl, fun _ _ h => h⟩ (fun _ _ h => h),
        ox_move 12 64 (.inl rfl) rfl rfl ⟨62, rfl, rfl, fun _ _ h => h⟩ (fun _ _ h => h),
        ox_bin rfl rfl ⟨62, rfl, rfl, fun _ _ h => h⟩ ⟨rfl, fun _ _ h => h⟩ ⟨rfl, fun _ _ h => h⟩ (fun _ => rn_eql (by simp)) (fun _ => rfl),
        ox_pick rfl rfl trivial ⟨rfl, fun _ _ h => h⟩ ⟨rfl, fun _ _ h => h⟩ (fun _ => rfl),
        ox_move 66 67 (.inl rfl) rfl rfl trivial (fun _ _ h => h),
        ox_load rfl rfl ⟨67, rfl, rfl, fun _ _ h => h⟩ ⟨rfl, fun _ _ h => h⟩ (fun _ g => loadsAt (tyT (.slice ao l.length cap) rfl) (rangeAt_row (row_of g HB2_2 (by simp)))) (fun _ => rfl),
        ox_call (Sp.gp (gaps l)) [.agg #[.slice ao l.length cap]] rfl rfl ⟨67, rfl, rfl, fun _ _ h => h⟩ ⟨⟨rfl, fun _ _ h => h⟩, trivial⟩ (gaps_on hs) (fun _ _ h => h) (enter_of Try.func32 (by kernel_rfl) rfl),
        ox_load rfl rfl ⟨67, rfl, rfl, fun _ _ h => h⟩ ⟨rfl, fun _ _ h => h⟩ (fun _ g => loadsAt (tyT (.slice ao l.length cap) rfl) (rangeAt_row (row_of g HB2_2 (by simp)))) (fun _ => rfl),
        ox_call (Sp.gp (gaps l)) [.agg #[.slice ao l.length cap]] rfl rfl ⟨67, rfl, rfl, fun _ _ h => h⟩ ⟨⟨rfl, fun _ _ h => h⟩, trivial⟩ (rgaps_on hs) (fun _ _ h => h) (enter_of Try.func34 (by kernel_rfl) rfl),
        ox_callY (Sp.is (.bool true)) rfl rfl ⟨67, rfl, rfl, fun _ _ h => h⟩ rfl (fun W _ av h => match av, h with | [v1, v2], ⟨h1, h2, _⟩ => (sameGaps_walk h1 h2 gaps_bound (gaps_len l)).mono fun e W' ⟨h3, h4⟩ => ⟨_, h3, h4, rfl⟩) (fun _ _ h => h) (enter_of Try.func31 (by kernel_rfl) rfl),
        ox_pick rfl rfl trivial ⟨rfl, fun _ _ h => h⟩ ⟨rfl, fun _ _ h => h⟩ (fun _ => rfl),
        ox_move 73 74 (.inl rfl) rfl rfl trivial (fun _ _ h => h),
        ox_call (Sp.is (.bool true)) [] rfl rfl ⟨74, rfl, rfl, fun _ _ h => h⟩ trivial (is_on fun W g => awake_walk W) (fun _ _ h => h) (enter_of Try.func19 (by kernel_rfl) rfl),
        ox_pick rfl rfl trivial ⟨rfl, fun _ _ h => h⟩ ⟨rfl, fun _ _ h => h⟩ (fun _ => rfl),
        ox_move 76 4 (.inr rfl) rfl rfl trivial (fun _ _ h => h),
        trivial⟩ fun a40 w40 g40 st40 => ?_
    obtain ⟨hn40, hd40, e40_42, e40_43, e40_44, e40_45, e40_46, e40_47, e40_48, e40_49, e40_50, e40_51, e40_52, e40_53, e40_54, e40_55, e40_56, e40_57, e40_58, e40_59, e40_60, e40_61, e40_62, e40_63, e40_64, e40_65, e40_66, e40_67, e40_68, e40_69, e40_70, e40_71, e40_72, e40_73, e40_74, e40_75, e40_76, e40_4, e40_12, e40_11, e40_10, e40_9, e40_8, e40_7, e40_6, e40_5, e40_2, e40_1, e40_16, -⟩ := st40
    replace HB2_2 := row_of g40 HB2_2 (by simp)
    replace HB5_15 := row_of g40 HB5_15 (by simp)
    replace HB7_21 := row_of g40 HB7_21 (by simp)
    replace HB9_28 := row_of g40 HB9_28 (by simp)
    replace HB11_35 := row_of g40 HB11_35 (by simp)
    replace hs := hs.kn g40
    replace ht27 := ht27.kn g40
    replace ht34 := ht34.kn g40
    replace HG := grown_trans HG g40
    have sv40 : Sv 77 [] [(12, .int .i64 q.2), (11, .pointer (some ⟨B11_35, 0, none⟩)), (10, .int .i64 q.2), (9, .pointer (some ⟨B9_28, 0, none⟩)), (8, .int .i64 r.2), (7, .pointer (some ⟨B7_21, 0, none⟩)), (6, .int .i64 r.2), (5, .pointer (some ⟨B5_15, 0, none⟩)), (2, .pointer (some ⟨B2_2, 0, none⟩)), (1, .int .i64 a), (16, .bool false), (4, .bool true)] a40 := ⟨hn40, hd40, e40_12, e40_11, e40_10, e40_9, e40_8, e40_7, e40_6, e40_5, e40_2, e40_1, e40_16, e40_4, trivial⟩
    refine k39 _ _ ?_
    refine wp_ret ?_
    repeat refine then_ret ?_
    refine cx_ret (fn := Try.f11) sv40 (res_tmp (p := 4) Try.results11 sv40 rfl rfl) ?_
    exact ⟨rfl, HG⟩
set_option maxRecDepth 100000 in
set_option maxHeartbeats 4000000 in
theorem raw_big (m : Nat) (ao : Option Addr) (cap : Nat) (a : Int) (w : World) (hbig : 30 < (m : Int)) :
    Calls Try.prog 11 #[.agg #[.slice ao m cap], .int .i64 a] w fun e w' => e = .returned (.bool true) ∧ w.grownBy w' none := by
  refine cx_enter Try.func11 rfl Try.ntmps11 rfl fun a0 sv0 => ?_
  have HG := World.grownBy.refl w none
  replace sv0 : Sv 77 [] [(0, .agg #[.slice ao m cap]), (1, .int .i64 a)] a0 := sv0
  refine wp_seq_k fun K1 k1 => ?_
  refine wp_region_lit ?_
  refine tl_box sv0 rfl rfl rfl rfl rfl rfl (tyT (.slice ao m cap) rfl) fun a2 w2 B2_2 eq_B2_2 g2 z2 HB2_2 sv2 => ?_
  have lo_B2_2 : w.heap.size ≤ B2_2 := Nat.le_trans HG.size (Nat.le_of_eq eq_B2_2.symm)
  replace HG := grown_trans HG g2
  replace sv2 : Sv 77 [] [(2, .pointer (some ⟨B2_2, 0, none⟩)), (0, .agg #[.slice ao m cap]), (1, .int .i64 a)] a2 := sv2
  refine tl_assign sv2 rfl (.inl rfl) rfl rfl rfl rfl fun a3 sv3 => ?_
  replace sv3 : Sv 77 [] [(4, .bool false), (2, .pointer (some ⟨B2_2, 0, none⟩)), (0, .agg #[.slice ao m cap]), (1, .int .i64 a)] a3 := sv3
  have sv4 : Sv 77 [] [(4, .bool false), (2, .pointer (some ⟨B2_2, 0, none⟩)), (1, .int .i64 a)] a3 := ⟨sv3.1, sv3.2.1, sv3.2.2.1, sv3.2.2.2.1, sv3.2.2.2.2.2.1, trivial⟩
  refine tl_nil ?_
  refine k1 _ _ ?_
  refine wp_seq_k fun K5 k5 => ?_
  refine wp_seq_k fun K6 k6 => ?_
  refine wp_region_lit ?_
  refine sx_head (sv4.st w2) 4 [(13, Sp.is (.pointer (some ⟨B2_2, 0, none⟩))), (14, Sp.is (.slice ao m cap)), (15, Sp.is (.int .i64 ((m : Nat)))), (16, Sp.is (.bool true))] rfl (by kernel_rfl) (by kernel_rfl) (by kernel_rfl)
    ⟨ox_field rfl rfl trivial ⟨rfl, fun _ _ h => h⟩ (fun _ => by kernel_rfl) (fun _ => rfl),
      ox_load rfl rfl trivial ⟨rfl, fun _ _ h => h⟩ (fun _ g => loadsAt (tyNs (.slice ao m cap) rfl) (range_part (L := [[.slice ao m cap]]) (i := 0) (row_of g HB2_2 (by simp)) rfl rfl)) (fun _ => rfl),
      ox_len (Try.underlying32) rfl rfl trivial ⟨rfl, fun _ _ h => h⟩ (fun _ => rfl),
      ox_bin rfl rfl trivial ⟨rfl, fun _ _ h => h⟩ rfl (fun _ => rn_gtr (by simpa using hbig)) (fun _ => rfl),
      trivial⟩ fun a7 w7 g7 st7 => ?_
  obtain ⟨hn7, hd7, e7_13, e7_14, e7_15, e7_16, e7_4, e7_2, e7_1, -⟩ := st7
  replace HB2_2 := row_of g7 HB2_2 (by simp)
  replace HG := grown_trans HG g7
  have sv7 : Sv 77 [] [(4, .bool false), (2, .pointer (some ⟨B2_2, 0, none⟩)), (1, .int .i64 a), (16, .bool true)] a7 := ⟨hn7, hd7, e7_4, e7_2, e7_1, e7_16, trivial⟩
  refine tl_nil ?_
  refine k6 _ _ ?_
  refine cx_ifT sv7 rfl rfl ?_
  refine wp_seq_k fun K8 k8 => ?_
  refine wp_region_lit ?_
  refine sx_head (sv7.st w7) 1 [(17, Sp.is (.bool true))] rfl (by kernel_rfl) (by kernel_rfl) (by kernel_rfl)
    ⟨ox_call (Sp.is (.bool true)) [] rfl rfl trivial trivial (is_on fun W g => awake_walk W) (fun _ _ h => h) (enter_of Try.func19 (by kernel_rfl) rfl),
      trivial⟩ fun a9 w9 g9 st9 => ?_
  obtain ⟨hn9, hd9, e9_17, e9_4, e9_2, e9_1, e9_16, -⟩ := st9
  replace HB2_2 := row_of g9 HB2_2 (by simp)
  replace HG := grown_trans HG g9
  have sv9 : Sv 77 [] [(4, .bool false), (2, .pointer (some ⟨B2_2, 0, none⟩)), (1, .int .i64 a), (16, .bool true), (17, .bool true)] a9 := ⟨hn9, hd9, e9_4, e9_2, e9_1, e9_16, e9_17, trivial⟩
  refine tl_assign sv9 rfl (.inl rfl) rfl rfl rfl rfl fun a10 sv10 => ?_
  replace sv10 : Sv 77 [] [(4, .bool true), (2, .pointer (some ⟨B2_2, 0, none⟩)), (1, .int .i64 a), (16, .bool true), (17, .bool true)] a10 := sv10
  have sv11 : Sv 77 [] [(4, .bool true), (2, .pointer (some ⟨B2_2, 0, none⟩)), (1, .int .i64 a), (16, .bool true)] a10 := ⟨sv10.1, sv10.2.1, sv10.2.2.1, sv10.2.2.2.1, sv10.2.2.2.2.1, sv10.2.2.2.2.2.1, trivial⟩
  refine tl_nil ?_
  refine k8 _ _ ?_
  refine wp_ret ?_
  repeat refine then_ret ?_
  refine cx_ret (fn := Try.f11) sv11 (res_tmp (p := 4) Try.results11 sv11 rfl rfl) ?_
  exact ⟨rfl, HG⟩
theorem raw_all (l : List Nd) (s : Value) (a : Int) (w : World) (h1 : Sl w 34 s l.length (tcells l)) (h2 : ∀ n ∈ l, Nok n) (h3 : ∀ k, s.ownBlock = some k → k < w.heap.size) :
    Calls Try.prog 11 #[.agg #[s], .int .i64 a] w fun e w' => e = .returned (.bool true) ∧ w.grownBy w' none := by
  obtain ⟨ao, cap, rfl, _⟩ := h1.shape
  by_cases hb : l.length ≤ 30
  · exact raw_walk l ao cap a w ⟨h1, h2, h3, by omega⟩
  · exact raw_big l.length ao cap a w (by omega)
end Go.Proofs.Yteakoleceoclkaa
