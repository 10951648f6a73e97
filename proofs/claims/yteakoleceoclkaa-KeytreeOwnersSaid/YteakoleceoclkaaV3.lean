/- Vaults: the place of an owner. (printed by gen_v3.py) -/
import Derived.Test.YteakoleceoclkaaV2
namespace Go.Proofs.Yteakoleceoclkaa
open Go.RowKit Go.Shelf
set_option linter.unusedSimpArgs false
set_option linter.unusedVariables false
theorem wrap_uint {x : Int} (h1 : 0 ≤ x) (h2 : x < 18446744073709551616) : IntKind.u64.wrap x = x := by rw [IntKind.wrap_u64]; omega
theorem rn_shr1 {P : Program} {a c : Int} {t : TypeId} {x y : Operand} {w : World} (h : a / 2 = c) : (do eqGuard .shr t x y (.int .u64 a) (.int .u64 1); binOp .shr t (.int .u64 a) (.int .u64 1) : Sem Value).run P w = .ok (.int .u64 c) w := by
  subst h
  have : min 1 IntKind.u64.bits = 1 := by decide
  simp [eqGuard, binOp_shr, shift_shr_any, this]
theorem ret2eq {a b : Int} {p q : Bool} (h1 : a = b) (h2 : p = q) : Ending.returned (.tuple #[.int .i64 a, .bool p]) = Ending.returned (.tuple #[.int .i64 b, .bool q]) := by rw [h1, h2]
theorem fnd_is {ks : List VK} {o : List Nat} {i : Nat} (hp : pos (ks.map VK.p) o = i) (hi : i < ks.length) {x : VK} (hx : ks[i] = x) : decide (x.o = o) = fnd (ks.map VK.p) o := by
  unfold fnd
  rw [hp, od_map hi, hx]
  simp [hi]
theorem fnd_end {ks : List VK} {o : List Nat} (h : ¬ pos (ks.map VK.p) o < ks.length) : false = fnd (ks.map VK.p) o := by
  unfold fnd
  simp at h ⊢
  omega
set_option maxRecDepth 100000 in
set_option maxHeartbeats 4000000 in
theorem bsearch_walk (ks : List VK) (ao : Option Addr) (cap : Nat) (o : List Nat) (ho : Dg o) (w : World) (hr : RdK w (.slice ao ks.length cap) ks) (hs : Srt (ks.map VK.p)) (h64 : ks.length ≤ 64) :
    Calls Try.prog 91 #[.slice ao ks.length cap, dval o, .func (.func 80) #[] #[]] w fun e w' => e = .returned (.tuple #[.int .i64 (pos (ks.map VK.p) o), .bool (fnd (ks.map VK.p) o)]) ∧ w.grownBy w' none := by
  have hlen := hr.len
  have hmap : (ks.map VK.p).length = ks.length := List.length_map _
  refine cx_enter Try.func91 rfl Try.ntmps91 rfl fun a0 sv0 => ?_
  have HG := World.grownBy.refl w none
  replace sv0 : Sv 49 [] [(0, .slice ao ks.length cap), (1, dval o), (2, .func (.func 80) #[] #[])] a0 := sv0
  refine wp_seq_k fun K1 k1 => ?_
  refine wp_region_lit ?_
  refine tl_box sv0 rfl rfl rfl rfl rfl rfl (tyD o ho.1) fun a2 w2 B4_2 eq_B4_2 g2 z2 HB4_2 sv2 => ?_
  have lo_B4_2 := nb_lo HG eq_B4_2
  have ap_hr_B4_2 := nb_ap (hr.lt) eq_B4_2
  replace hr := hr.kn g2
  replace HG := grown_trans HG g2
  replace sv2 : Sv 49 [] [(4, .pointer (some ⟨B4_2, 0, none⟩)), (0, .slice ao ks.length cap), (1, dval o), (2, .func (.func 80) #[] #[])] a2 := sv2
  refine tl_assign sv2 rfl (.inl rfl) rfl rfl rfl rfl fun a3 sv3 => ?_
  replace sv3 : Sv 49 [] [(6, .int .i64 0), (4, .pointer (some ⟨B4_2, 0, none⟩)), (0, .slice ao ks.length cap), (1, dval o), (2, .func (.func 80) #[] #[])] a3 := sv3
  refine tl_assign sv3 rfl (.inl rfl) rfl rfl rfl rfl fun a4 sv4 => ?_
  replace sv4 : Sv 49 [] [(7, .bool false), (6, .int .i64 0), (4, .pointer (some ⟨B4_2, 0, none⟩)), (0, .slice ao ks.length cap), (1, dval o), (2, .func (.func 80) #[] #[])] a4 := sv4
  have sv5 : Sv 49 [] [(7, .bool false), (6, .int .i64 0), (4, .pointer (some ⟨B4_2, 0, none⟩)), (0, .slice ao ks.length cap), (2, .func (.func 80) #[] #[])] a4 := ⟨sv4.1, sv4.2.1, sv4.2.2.1, sv4.2.2.2.1, sv4.2.2.2.2.1, sv4.2.2.2.2.2.1, sv4.2.2.2.2.2.2.2.1, trivial⟩
  refine tl_nil ?_
  refine k1 _ _ ?_
  refine wp_seq_k fun K6 k6 => ?_
  refine wp_region_lit ?_
  refine sx_head (sv5.st w2) 2 [(12, Sp.is (.slice ao ks.length cap)), (13, Sp.is (.int .i64 ((ks.length : Nat))))] rfl (by kernel_rfl) (by kernel_rfl) (by kernel_rfl)
    ⟨xm rfl rfl rfl rfl rfl, ox_len (Try.underlying56) rfl rfl trivial (oy rfl rfl) (fun _ => rfl), trivial⟩ fun a7 w7 g7 st7 => ?_
  obtain ⟨hn7, hd7, e7_12, e7_13, e7_7, e7_6, e7_4, e7_0, e7_2, -⟩ := st7
  replace HB4_2 := rw_kn g7 HB4_2
  replace hr := hr.kn g7
  replace HG := grown_trans HG g7
  have sv7 : Sv 49 [] [(7, .bool false), (6, .int .i64 0), (4, .pointer (some ⟨B4_2, 0, none⟩)), (0, .slice ao ks.length cap), (2, .func (.func 80) #[] #[]), (13, .int .i64 ((ks.length : Nat)))] a7 := ⟨hn7, hd7, e7_7, e7_6, e7_4, e7_0, e7_2, e7_13, trivial⟩
  refine tl_assign sv7 rfl (.inl rfl) rfl rfl rfl rfl fun a8 sv8 => ?_
  replace sv8 : Sv 49 [] [(8, .int .i64 ((ks.length : Nat))), (7, .bool false), (6, .int .i64 0), (4, .pointer (some ⟨B4_2, 0, none⟩)), (0, .slice ao ks.length cap), (2, .func (.func 80) #[] #[]), (13, .int .i64 ((ks.length : Nat)))] a8 := sv8
  have sv9 : Sv 49 [] [(8, .int .i64 ((ks.length : Nat))), (7, .bool false), (6, .int .i64 0), (4, .pointer (some ⟨B4_2, 0, none⟩)), (0, .slice ao ks.length cap), (2, .func (.func 80) #[] #[])] a8 := ⟨sv8.1, sv8.2.1, sv8.2.2.1, sv8.2.2.2.1, sv8.2.2.2.2.1, sv8.2.2.2.2.2.1, sv8.2.2.2.2.2.2.1, sv8.2.2.2.2.2.2.2.1, trivial⟩
  refine tl_nil ?_
  refine k6 _ _ ?_
  refine wp_seq_k fun K10 k10 => ?_
  refine wp_region_lit ?_
  refine sx_head (sv9.st w7) 1 [(14, Sp.is (.int .i64 ((ks.length : Nat))))] rfl (by kernel_rfl) (by kernel_rfl) (by kernel_rfl)
    ⟨xm rfl rfl rfl rfl rfl, trivial⟩ fun a11 w11 g11 st11 => ?_
  obtain ⟨hn11, hd11, e11_14, e11_8, e11_7, e11_6, e11_4, e11_0, e11_2, -⟩ := st11
  replace HB4_2 := rw_kn g11 HB4_2
  replace hr := hr.kn g11
  replace HG := grown_trans HG g11
  have sv11 : Sv 49 [] [(8, .int .i64 ((ks.length : Nat))), (7, .bool false), (6, .int .i64 0), (4, .pointer (some ⟨B4_2, 0, none⟩)), (0, .slice ao ks.length cap), (2, .func (.func 80) #[] #[]), (14, .int .i64 ((ks.length : Nat)))] a11 := ⟨hn11, hd11, e11_8, e11_7, e11_6, e11_4, e11_0, e11_2, e11_14, trivial⟩
  refine tl_assign sv11 rfl (.inl rfl) rfl rfl rfl rfl fun a12 sv12 => ?_
  replace sv12 : Sv 49 [] [(9, .int .i64 0), (8, .int .i64 ((ks.length : Nat))), (7, .bool false), (6, .int .i64 0), (4, .pointer (some ⟨B4_2, 0, none⟩)), (0, .slice ao ks.length cap), (2, .func (.func 80) #[] #[]), (14, .int .i64 ((ks.length : Nat)))] a12 := sv12
  refine tl_assign sv12 rfl (.inl rfl) rfl rfl rfl rfl fun a13 sv13 => ?_
  replace sv13 : Sv 49 [] [(10, .int .i64 ((ks.length : Nat))), (9, .int .i64 0), (8, .int .i64 ((ks.length : Nat))), (7, .bool false), (6, .int .i64 0), (4, .pointer (some ⟨B4_2, 0, none⟩)), (0, .slice ao ks.length cap), (2, .func (.func 80) #[] #[]), (14, .int .i64 ((ks.length : Nat)))] a13 := sv13
  have sv14 : Sv 49 [] [(10, .int .i64 ((ks.length : Nat))), (9, .int .i64 0), (8, .int .i64 ((ks.length : Nat))), (7, .bool false), (6, .int .i64 0), (4, .pointer (some ⟨B4_2, 0, none⟩)), (0, .slice ao ks.length cap), (2, .func (.func 80) #[] #[])] a13 := ⟨sv13.1, sv13.2.1, sv13.2.2.1, sv13.2.2.2.1, sv13.2.2.2.2.1, sv13.2.2.2.2.2.1, sv13.2.2.2.2.2.2.1, sv13.2.2.2.2.2.2.2.1, sv13.2.2.2.2.2.2.2.2.1, sv13.2.2.2.2.2.2.2.2.2.1, trivial⟩
  refine tl_nil ?_
  refine k10 _ _ ?_
  refine wp_seq_k fun K15 k15 => ?_
  refine cx_block fun Q16 x16 y16 r16 o16 => ?_
  refine wp_loop (fun a w' => ∃ (i : Nat) (j : Nat), (i ≤ j) ∧ (j ≤ ks.length) ∧ (∀ k, k < i → blt (od (ks.map VK.p) k) o = true) ∧ (∀ k, j ≤ k → k < ks.length → blt (od (ks.map VK.p) k) o = false) ∧ Sv 49 [] [(9, .int .i64 ((i : Int))), (10, .int .i64 ((j : Int))), (8, .int .i64 ((ks.length : Nat))), (7, .bool false), (6, .int .i64 0), (4, .pointer (some ⟨B4_2, 0, none⟩)), (0, .slice ao ks.length cap), (2, .func (.func 80) #[] #[])] a ∧ w.grownBy w' none ∧ w'.heap[B4_2]? = some (.cells (bv o).toArray 29 (0, 0)) ∧ RdK w' (.slice ao ks.length cap) ks) (fun a _ => (intOf (a.tmps.getD 10 undef) - intOf (a.tmps.getD 9 undef)).toNat) ⟨0, ks.length, Nat.zero_le _, Nat.le_refl _, fun k hk => by omega, fun k h1 h2 => by omega, ⟨sv14.1, sv14.2.1, sv14.2.2.2.1, sv14.2.2.1, sv14.2.2.2.2.1, sv14.2.2.2.2.2.1, sv14.2.2.2.2.2.2.1, sv14.2.2.2.2.2.2.2.1, sv14.2.2.2.2.2.2.2.2.1, sv14.2.2.2.2.2.2.2.2.2.1, trivial⟩, HG, HB4_2, hr⟩ fun a17 w17 hI17 => ?_
  clear HB4_2
  clear hr
  clear HG
  obtain ⟨i, j, hij, hjn, hb, ha, sv17, HG, HB4_2, hr⟩ := hI17
  refine wp_seq_k fun K18 k18 => ?_
  refine wp_seq_k fun K19 k19 => ?_
  by_cases hlt : i < j
  · obtain ⟨m, hm⟩ : ∃ m, m = (i + j) / 2 := ⟨_, rfl⟩
    have hmi : i ≤ m ∧ m < j ∧ m < ks.length := by omega
    have hm3 := hmi.2.2
    obtain ⟨x, hx_x⟩ : ∃ x, ks[m]'hm3 = x := ⟨_, rfl⟩
    have hod : od (ks.map VK.p) m = x.o := by rw [od_map hm3, hx_x]
    refine wp_region_lit ?_
    refine sx_head (sv17.st w17) 3 [(15, Sp.is (.int .i64 ((i : Int)))), (16, Sp.is (.int .i64 ((j : Int)))), (17, Sp.is (.bool true))] rfl (by kernel_rfl) (by kernel_rfl) (by kernel_rfl)
      ⟨xm rfl rfl rfl rfl rfl, xm rfl rfl rfl rfl rfl, ox_bin rfl rfl trivial (oy rfl rfl) (oy rfl rfl) (fun _ => rn_lss (by simp; omega)) (fun _ => rfl), trivial⟩ fun a20 w20 g20 st20 => ?_
    obtain ⟨hn20, hd20, e20_15, e20_16, e20_17, e20_9, e20_10, e20_8, e20_7, e20_6, e20_4, e20_0, e20_2, -⟩ := st20
    replace HB4_2 := rw_kn g20 HB4_2
    replace hr := hr.kn g20
    replace HG := grown_trans HG g20
    have sv20 : Sv 49 [] [(9, .int .i64 ((i : Int))), (10, .int .i64 ((j : Int))), (8, .int .i64 ((ks.length : Nat))), (7, .bool false), (6, .int .i64 0), (4, .pointer (some ⟨B4_2, 0, none⟩)), (0, .slice ao ks.length cap), (2, .func (.func 80) #[] #[]), (17, .bool true)] a20 := ⟨hn20, hd20, e20_9, e20_10, e20_8, e20_7, e20_6, e20_4, e20_0, e20_2, e20_17, trivial⟩
    refine tl_nil ?_
    refine k19 _ _ ?_
    refine cx_ifT sv20 rfl rfl ?_
    refine wp_skip ?_
    refine k18 _ _ ?_
    refine cx_block fun Q21 x21 y21 r21 o21 => ?_
    refine wp_seq_k fun K22 k22 => ?_
    refine wp_region_lit ?_
    refine sx_head (sv20.st w20) 6 [(18, Sp.is (.int .i64 ((i : Int)))), (19, Sp.is (.int .i64 ((j : Int)))), (20, Sp.is (.int .i64 (((i + j : Nat) : Int)))), (21, Sp.is (.int .u64 (((i + j : Nat) : Int)))), (22, Sp.is (.int .u64 ((m : Int)))), (23, Sp.is (.int .i64 ((m : Int))))] rfl (by kernel_rfl) (by kernel_rfl) (by kernel_rfl)
      ⟨xm rfl rfl rfl rfl rfl, xm rfl rfl rfl rfl rfl, ox_bin rfl rfl trivial (oy rfl rfl) (oy rfl rfl) (fun _ => rn_add (by rw [wrap_i64 (by omega) (by omega)]; omega)) (fun _ => rfl), ox_conv rfl rfl trivial (oy rfl rfl) (fun _ => rn_conv Try.underlying3 Try.underlying45 (wrap_uint (by omega) (by omega))) (fun _ => rfl), ox_bin rfl rfl trivial (oy rfl rfl) rfl (fun _ => rn_shr1 (by omega)) (fun _ => rfl), ox_conv rfl rfl trivial (oy rfl rfl) (fun _ => rn_conv Try.underlying45 Try.underlying3 (wrap_i64 (by omega) (by omega))) (fun _ => rfl), trivial⟩ fun a23 w23 g23 st23 => ?_
    obtain ⟨hn23, hd23, e23_18, e23_19, e23_20, e23_21, e23_22, e23_23, e23_9, e23_10, e23_8, e23_7, e23_6, e23_4, e23_0, e23_2, e23_17, -⟩ := st23
    replace HB4_2 := rw_kn g23 HB4_2
    replace hr := hr.kn g23
    replace HG := grown_trans HG g23
    have sv23 : Sv 49 [] [(9, .int .i64 ((i : Int))), (10, .int .i64 ((j : Int))), (8, .int .i64 ((ks.length : Nat))), (7, .bool false), (6, .int .i64 0), (4, .pointer (some ⟨B4_2, 0, none⟩)), (0, .slice ao ks.length cap), (2, .func (.func 80) #[] #[]), (17, .bool true), (23, .int .i64 ((m : Int)))] a23 := ⟨hn23, hd23, e23_9, e23_10, e23_8, e23_7, e23_6, e23_4, e23_0, e23_2, e23_17, e23_23, trivial⟩
    refine tl_assign sv23 rfl (.inl rfl) rfl rfl rfl rfl fun a24 sv24 => ?_
    replace sv24 : Sv 49 [] [(11, .int .i64 ((m : Int))), (9, .int .i64 ((i : Int))), (10, .int .i64 ((j : Int))), (8, .int .i64 ((ks.length : Nat))), (7, .bool false), (6, .int .i64 0), (4, .pointer (some ⟨B4_2, 0, none⟩)), (0, .slice ao ks.length cap), (2, .func (.func 80) #[] #[]), (17, .bool true), (23, .int .i64 ((m : Int)))] a24 := sv24
    have sv25 : Sv 49 [] [(11, .int .i64 ((m : Int))), (9, .int .i64 ((i : Int))), (10, .int .i64 ((j : Int))), (8, .int .i64 ((ks.length : Nat))), (7, .bool false), (6, .int .i64 0), (4, .pointer (some ⟨B4_2, 0, none⟩)), (0, .slice ao ks.length cap), (2, .func (.func 80) #[] #[]), (17, .bool true)] a24 := ⟨sv24.1, sv24.2.1, sv24.2.2.1, sv24.2.2.2.1, sv24.2.2.2.2.1, sv24.2.2.2.2.2.1, sv24.2.2.2.2.2.2.1, sv24.2.2.2.2.2.2.2.1, sv24.2.2.2.2.2.2.2.2.1, sv24.2.2.2.2.2.2.2.2.2.1, sv24.2.2.2.2.2.2.2.2.2.2.1, sv24.2.2.2.2.2.2.2.2.2.2.2.1, trivial⟩
    refine tl_nil ?_
    refine k22 _ _ ?_
    refine wp_seq_k fun K26 k26 => ?_
    by_cases hc : blt x.o o = true
    · refine rx_all (sv25.st w23) (by kernel_rfl) [(24, Sp.is (.func (.func 80) #[] #[])), (25, Sp.is (.slice ao ks.length cap)), (26, Sp.is (.int .i64 ((m : Int)))), (27, Sp.is (.pointer (some ⟨(bO ao), oO ao + m * 33, none⟩))), (28, Sp.is (kval x)), (29, Sp.is (dval o)), (30, Sp.is (.int .i64 ((bcmp x.o o)))), (31, Sp.is (.bool true))] rfl (by kernel_rfl) (by kernel_rfl) (by kernel_rfl)
        ⟨xm rfl rfl rfl rfl rfl, xm rfl rfl rfl rfl rfl, xm rfl rfl rfl rfl rfl, ox_index rfl rfl trivial (oy rfl rfl) (oy rfl rfl) (fun w => ix_sl Try.underlying56 (by kernel_rfl) (hr.1.1) (by omega) (rfl) w) (fun _ => rfl), ox_load rfl rfl trivial (oy rfl rfl) (fun _ g => loadsAt (tyK x) (RdK.keyX (hr.kn g) rfl hm3 hx_x)) (fun _ => rfl), xl rfl rfl rfl rfl rfl (tyD o ho.1) HB4_2 rfl, ox_callV (Sp.is (.int .i64 ((bcmp x.o o)))) [kval x, dval o] rfl rfl trivial (oy rfl rfl) ⟨(oy rfl rfl), (oy rfl rfl), trivial⟩ (is_on fun W g => cmpo_walk x o ho W) (fun _ _ h => h) (enter_of Try.func80 (by kernel_rfl) rfl), ox_bin rfl rfl trivial (oy rfl rfl) rfl (fun _ => rn_lss (by rw [bcmp_lt, hc])) (fun _ => rfl), trivial⟩ fun a27 w27 g27 st27 => ?_
      obtain ⟨hn27, hd27, e27_24, e27_25, e27_26, e27_27, e27_28, e27_29, e27_30, e27_31, e27_11, e27_9, e27_10, e27_8, e27_7, e27_6, e27_4, e27_0, e27_2, e27_17, -⟩ := st27
      replace HB4_2 := rw_kn g27 HB4_2
      replace hr := hr.kn g27
      replace HG := grown_trans HG g27
      have sv27 : Sv 49 [] [(11, .int .i64 ((m : Int))), (9, .int .i64 ((i : Int))), (10, .int .i64 ((j : Int))), (8, .int .i64 ((ks.length : Nat))), (7, .bool false), (6, .int .i64 0), (4, .pointer (some ⟨B4_2, 0, none⟩)), (0, .slice ao ks.length cap), (2, .func (.func 80) #[] #[]), (17, .bool true), (31, .bool true)] a27 := ⟨hn27, hd27, e27_11, e27_9, e27_10, e27_8, e27_7, e27_6, e27_4, e27_0, e27_2, e27_17, e27_31, trivial⟩
      refine k26 _ _ ?_
      refine cx_ifT sv27 rfl rfl ?_
      refine wp_region_lit ?_
      refine sx_head (sv27.st w27) 2 [(32, Sp.is (.int .i64 ((m : Int)))), (33, Sp.is (.int .i64 (((m + 1 : Nat) : Int))))] rfl (by kernel_rfl) (by kernel_rfl) (by kernel_rfl)
        ⟨xm rfl rfl rfl rfl rfl, ox_bin rfl rfl trivial (oy rfl rfl) rfl (fun _ => rn_add (by rw [wrap_i64 (by omega) (by omega)]; omega)) (fun _ => rfl), trivial⟩ fun a28 w28 g28 st28 => ?_
      obtain ⟨hn28, hd28, e28_32, e28_33, e28_11, e28_9, e28_10, e28_8, e28_7, e28_6, e28_4, e28_0, e28_2, e28_17, e28_31, -⟩ := st28
      replace HB4_2 := rw_kn g28 HB4_2
      replace hr := hr.kn g28
      replace HG := grown_trans HG g28
      have sv28 : Sv 49 [] [(11, .int .i64 ((m : Int))), (9, .int .i64 ((i : Int))), (10, .int .i64 ((j : Int))), (8, .int .i64 ((ks.length : Nat))), (7, .bool false), (6, .int .i64 0), (4, .pointer (some ⟨B4_2, 0, none⟩)), (0, .slice ao ks.length cap), (2, .func (.func 80) #[] #[]), (17, .bool true), (31, .bool true), (33, .int .i64 (((m + 1 : Nat) : Int)))] a28 := ⟨hn28, hd28, e28_11, e28_9, e28_10, e28_8, e28_7, e28_6, e28_4, e28_0, e28_2, e28_17, e28_31, e28_33, trivial⟩
      refine tl_assign sv28 rfl (.inl rfl) rfl rfl rfl rfl fun a29 sv29 => ?_
      replace sv29 : Sv 49 [] [(9, .int .i64 (((m + 1 : Nat) : Int))), (11, .int .i64 ((m : Int))), (10, .int .i64 ((j : Int))), (8, .int .i64 ((ks.length : Nat))), (7, .bool false), (6, .int .i64 0), (4, .pointer (some ⟨B4_2, 0, none⟩)), (0, .slice ao ks.length cap), (2, .func (.func 80) #[] #[]), (17, .bool true), (31, .bool true), (33, .int .i64 (((m + 1 : Nat) : Int)))] a29 := sv29
      have sv30 : Sv 49 [] [(9, .int .i64 (((m + 1 : Nat) : Int))), (11, .int .i64 ((m : Int))), (10, .int .i64 ((j : Int))), (8, .int .i64 ((ks.length : Nat))), (7, .bool false), (6, .int .i64 0), (4, .pointer (some ⟨B4_2, 0, none⟩)), (0, .slice ao ks.length cap), (2, .func (.func 80) #[] #[]), (17, .bool true), (31, .bool true)] a29 := ⟨sv29.1, sv29.2.1, sv29.2.2.1, sv29.2.2.2.1, sv29.2.2.2.2.1, sv29.2.2.2.2.2.1, sv29.2.2.2.2.2.2.1, sv29.2.2.2.2.2.2.2.1, sv29.2.2.2.2.2.2.2.2.1, sv29.2.2.2.2.2.2.2.2.2.1, sv29.2.2.2.2.2.2.2.2.2.2.1, sv29.2.2.2.2.2.2.2.2.2.2.2.1, sv29.2.2.2.2.2.2.2.2.2.2.2.2.1, trivial⟩
      refine tl_nil ?_
      refine y21 _ _ ?_
      exact ⟨⟨m + 1, j, by omega, by omega, fun k hk => if e : k = m then (by rw [e, hod, hc]) else blt_trans (hs.lt (i := k) (j := m) (by omega) (by rw [hmap]; omega)) (hod.symm ▸ hc), ha, ⟨sv30.1, sv30.2.1, sv30.2.2.1, sv30.2.2.2.2.1, sv30.2.2.2.2.2.1, sv30.2.2.2.2.2.2.1, sv30.2.2.2.2.2.2.2.1, sv30.2.2.2.2.2.2.2.2.1, sv30.2.2.2.2.2.2.2.2.2.1, sv30.2.2.2.2.2.2.2.2.2.2.1, trivial⟩, HG, HB4_2, hr⟩, by rw [show _ = _ from sv30.2.2.1, show _ = _ from sv30.2.2.2.2.1, show _ = _ from sv17.2.2.1, show _ = _ from sv17.2.2.2.1]; simp [intOf]; omega⟩
    · refine rx_all (sv25.st w23) (by kernel_rfl) [(24, Sp.is (.func (.func 80) #[] #[])), (25, Sp.is (.slice ao ks.length cap)), (26, Sp.is (.int .i64 ((m : Int)))), (27, Sp.is (.pointer (some ⟨(bO ao), oO ao + m * 33, none⟩))), (28, Sp.is (kval x)), (29, Sp.is (dval o)), (30, Sp.is (.int .i64 ((bcmp x.o o)))), (31, Sp.is (.bool false))] rfl (by kernel_rfl) (by kernel_rfl) (by kernel_rfl)
        ⟨xm rfl rfl rfl rfl rfl, xm rfl rfl rfl rfl rfl, xm rfl rfl rfl rfl rfl, ox_index rfl rfl trivial (oy rfl rfl) (oy rfl rfl) (fun w => ix_sl Try.underlying56 (by kernel_rfl) (hr.1.1) (by omega) (rfl) w) (fun _ => rfl), ox_load rfl rfl trivial (oy rfl rfl) (fun _ g => loadsAt (tyK x) (RdK.keyX (hr.kn g) rfl hm3 hx_x)) (fun _ => rfl), xl rfl rfl rfl rfl rfl (tyD o ho.1) HB4_2 rfl, ox_callV (Sp.is (.int .i64 ((bcmp x.o o)))) [kval x, dval o] rfl rfl trivial (oy rfl rfl) ⟨(oy rfl rfl), (oy rfl rfl), trivial⟩ (is_on fun W g => cmpo_walk x o ho W) (fun _ _ h => h) (enter_of Try.func80 (by kernel_rfl) rfl), ox_bin rfl rfl trivial (oy rfl rfl) rfl (fun _ => rn_lss (by rw [bcmp_lt]; simpa using hc)) (fun _ => rfl), trivial⟩ fun a31 w31 g31 st31 => ?_
      obtain ⟨hn31, hd31, e31_24, e31_25, e31_26, e31_27, e31_28, e31_29, e31_30, e31_31, e31_11, e31_9, e31_10, e31_8, e31_7, e31_6, e31_4, e31_0, e31_2, e31_17, -⟩ := st31
      replace HB4_2 := rw_kn g31 HB4_2
      replace hr := hr.kn g31
      replace HG := grown_trans HG g31
      have sv31 : Sv 49 [] [(11, .int .i64 ((m : Int))), (9, .int .i64 ((i : Int))), (10, .int .i64 ((j : Int))), (8, .int .i64 ((ks.length : Nat))), (7, .bool false), (6, .int .i64 0), (4, .pointer (some ⟨B4_2, 0, none⟩)), (0, .slice ao ks.length cap), (2, .func (.func 80) #[] #[]), (17, .bool true), (31, .bool false)] a31 := ⟨hn31, hd31, e31_11, e31_9, e31_10, e31_8, e31_7, e31_6, e31_4, e31_0, e31_2, e31_17, e31_31, trivial⟩
      refine k26 _ _ ?_
      refine cx_ifF sv31 rfl rfl ?_
      refine wp_region_lit ?_
      refine sx_head (sv31.st w31) 1 [(34, Sp.is (.int .i64 ((m : Int))))] rfl (by kernel_rfl) (by kernel_rfl) (by kernel_rfl)
        ⟨xm rfl rfl rfl rfl rfl, trivial⟩ fun a32 w32 g32 st32 => ?_
      obtain ⟨hn32, hd32, e32_34, e32_11, e32_9, e32_10, e32_8, e32_7, e32_6, e32_4, e32_0, e32_2, e32_17, e32_31, -⟩ := st32
      replace HB4_2 := rw_kn g32 HB4_2
      replace hr := hr.kn g32
      replace HG := grown_trans HG g32
      have sv32 : Sv 49 [] [(11, .int .i64 ((m : Int))), (9, .int .i64 ((i : Int))), (10, .int .i64 ((j : Int))), (8, .int .i64 ((ks.length : Nat))), (7, .bool false), (6, .int .i64 0), (4, .pointer (some ⟨B4_2, 0, none⟩)), (0, .slice ao ks.length cap), (2, .func (.func 80) #[] #[]), (17, .bool true), (31, .bool false), (34, .int .i64 ((m : Int)))] a32 := ⟨hn32, hd32, e32_11, e32_9, e32_10, e32_8, e32_7, e32_6, e32_4, e32_0, e32_2, e32_17, e32_31, e32_34, trivial⟩
      refine tl_assign sv32 rfl (.inl rfl) rfl rfl rfl rfl fun a33 sv33 => ?_
      replace sv33 : Sv 49 [] [(10, .int .i64 ((m : Int))), (11, .int .i64 ((m : Int))), (9, .int .i64 ((i : Int))), (8, .int .i64 ((ks.length : Nat))), (7, .bool false), (6, .int .i64 0), (4, .pointer (some ⟨B4_2, 0, none⟩)), (0, .slice ao ks.length cap), (2, .func (.func 80) #[] #[]), (17, .bool true), (31, .bool false), (34, .int .i64 ((m : Int)))] a33 := sv33
      have sv34 : Sv 49 [] [(10, .int .i64 ((m : Int))), (11, .int .i64 ((m : Int))), (9, .int .i64 ((i : Int))), (8, .int .i64 ((ks.length : Nat))), (7, .bool false), (6, .int .i64 0), (4, .pointer (some ⟨B4_2, 0, none⟩)), (0, .slice ao ks.length cap), (2, .func (.func 80) #[] #[]), (17, .bool true), (31, .bool false)] a33 := ⟨sv33.1, sv33.2.1, sv33.2.2.1, sv33.2.2.2.1, sv33.2.2.2.2.1, sv33.2.2.2.2.2.1, sv33.2.2.2.2.2.2.1, sv33.2.2.2.2.2.2.2.1, sv33.2.2.2.2.2.2.2.2.1, sv33.2.2.2.2.2.2.2.2.2.1, sv33.2.2.2.2.2.2.2.2.2.2.1, sv33.2.2.2.2.2.2.2.2.2.2.2.1, sv33.2.2.2.2.2.2.2.2.2.2.2.2.1, trivial⟩
      refine tl_nil ?_
      refine y21 _ _ ?_
      exact ⟨⟨i, m, by omega, by omega, hb, fun k h1 h2 => if e : k = m then (by rw [e, hod]; simpa using hc) else Bool.eq_false_iff.2 fun hh => hc (hod ▸ blt_trans (hs.lt (i := m) (j := k) (by omega) (by rw [hmap]; omega)) hh), ⟨sv34.1, sv34.2.1, sv34.2.2.2.2.1, sv34.2.2.1, sv34.2.2.2.2.2.1, sv34.2.2.2.2.2.2.1, sv34.2.2.2.2.2.2.2.1, sv34.2.2.2.2.2.2.2.2.1, sv34.2.2.2.2.2.2.2.2.2.1, sv34.2.2.2.2.2.2.2.2.2.2.1, trivial⟩, HG, HB4_2, hr⟩, by rw [show _ = _ from sv34.2.2.2.2.1, show _ = _ from sv34.2.2.1, show _ = _ from sv17.2.2.1, show _ = _ from sv17.2.2.2.1]; simp [intOf]; omega⟩
  · have hie : i = j := by omega
    have hpos : pos (ks.map VK.p) o = i := pos_uniq (by omega) hb fun h => ha i (by omega) (by omega)
    refine wp_region_lit ?_
    refine sx_head (sv17.st w17) 3 [(15, Sp.is (.int .i64 ((i : Int)))), (16, Sp.is (.int .i64 ((j : Int)))), (17, Sp.is (.bool false))] rfl (by kernel_rfl) (by kernel_rfl) (by kernel_rfl)
      ⟨xm rfl rfl rfl rfl rfl, xm rfl rfl rfl rfl rfl, ox_bin rfl rfl trivial (oy rfl rfl) (oy rfl rfl) (fun _ => rn_lss (by simp; omega)) (fun _ => rfl), trivial⟩ fun a35 w35 g35 st35 => ?_
    obtain ⟨hn35, hd35, e35_15, e35_16, e35_17, e35_9, e35_10, e35_8, e35_7, e35_6, e35_4, e35_0, e35_2, -⟩ := st35
    replace HB4_2 := rw_kn g35 HB4_2
    replace hr := hr.kn g35
    replace HG := grown_trans HG g35
    have sv35 : Sv 49 [] [(9, .int .i64 ((i : Int))), (10, .int .i64 ((j : Int))), (8, .int .i64 ((ks.length : Nat))), (7, .bool false), (6, .int .i64 0), (4, .pointer (some ⟨B4_2, 0, none⟩)), (0, .slice ao ks.length cap), (2, .func (.func 80) #[] #[]), (17, .bool false)] a35 := ⟨hn35, hd35, e35_9, e35_10, e35_8, e35_7, e35_6, e35_4, e35_0, e35_2, e35_17, trivial⟩
    refine tl_nil ?_
    refine k19 _ _ ?_
    refine cx_ifF sv35 rfl rfl ?_
    refine wp_exit ?_
    repeat refine then_exit ?_
    refine x16 _ _ ?_
    refine k15 _ _ ?_
    refine wp_seq_k fun K36 k36 => ?_
    by_cases hin : i < ks.length
    · obtain ⟨y, hx_y⟩ : ∃ x, ks[i]'hin = x := ⟨_, rfl⟩
      have sv37c : Sv 49 [] [(9, .int .i64 ((i : Int))), (10, .int .i64 ((j : Int))), (8, .int .i64 ((ks.length : Nat))), (4, .pointer (some ⟨B4_2, 0, none⟩)), (0, .slice ao ks.length cap), (2, .func (.func 80) #[] #[]), (17, .bool false)] a35 := ⟨sv35.1, sv35.2.1, sv35.2.2.1, sv35.2.2.2.1, sv35.2.2.2.2.1, sv35.2.2.2.2.2.2.2.1, sv35.2.2.2.2.2.2.2.2.1, sv35.2.2.2.2.2.2.2.2.2.1, sv35.2.2.2.2.2.2.2.2.2.2.1, trivial⟩
      refine rx_all (sv37c.st w35) (by kernel_rfl) [(35, Sp.is (.int .i64 ((i : Int)))), (36, Sp.is (.int .i64 ((i : Int)))), (37, Sp.is (.int .i64 ((ks.length : Nat)))), (38, Sp.is (.bool true)), (39, Sp.is (.bool true)), (40, Sp.is (.func (.func 80) #[] #[])), (41, Sp.is (.slice ao ks.length cap)), (42, Sp.is (.int .i64 ((i : Int)))), (43, Sp.is (.pointer (some ⟨(bO ao), oO ao + i * 33, none⟩))), (44, Sp.is (kval y)), (45, Sp.is (dval o)), (46, Sp.is (.int .i64 ((bcmp y.o o)))), (47, Sp.is (.bool (decide (y.o = o)))), (48, Sp.is (.bool (decide (y.o = o)))), (6, Sp.is (.int .i64 ((i : Int)))), (7, Sp.is (.bool (decide (y.o = o))))] rfl (by kernel_rfl) (by kernel_rfl) (by kernel_rfl)
        ⟨xm rfl rfl rfl rfl rfl, xm rfl rfl rfl rfl rfl, xm rfl rfl rfl rfl rfl, ox_bin rfl rfl trivial (oy rfl rfl) (oy rfl rfl) (fun _ => rn_lss (by simp; omega)) (fun _ => rfl), xm rfl rfl rfl rfl rfl, ox_move 2 40 (.inl rfl) rfl rfl (gy rfl rfl rfl) (fun _ _ h => h), ox_move 0 41 (.inl rfl) rfl rfl (gy rfl rfl rfl) (fun _ _ h => h), ox_move 9 42 (.inl rfl) rfl rfl (gy rfl rfl rfl) (fun _ _ h => h), ox_index rfl rfl (gy rfl rfl rfl) (oy rfl rfl) (oy rfl rfl) (fun w => ix_sl Try.underlying56 (by kernel_rfl) (hr.1.1) (by omega) (rfl) w) (fun _ => rfl), ox_load rfl rfl (gy rfl rfl rfl) (oy rfl rfl) (fun _ g => loadsAt (tyK y) (RdK.keyX (hr.kn g) rfl hin hx_y)) (fun _ => rfl), ox_load rfl rfl (gy rfl rfl rfl) (oy rfl rfl) (fun _ g => loadsAt (tyD o ho.1) (rangeAt_row (row_of g HB4_2 (by simp)))) (fun _ => rfl), ox_callV (Sp.is (.int .i64 ((bcmp y.o o)))) [kval y, dval o] rfl rfl (gy rfl rfl rfl) (oy rfl rfl) ⟨(oy rfl rfl), (oy rfl rfl), trivial⟩ (is_on fun W g => cmpo_walk y o ho W) (fun _ _ h => h) (enter_of Try.func80 (by kernel_rfl) rfl), ox_bin rfl rfl (gy rfl rfl rfl) (oy rfl rfl) rfl (fun _ => rn_eql bcmp_eq) (fun _ => rfl), ox_pick rfl rfl trivial (oy rfl rfl) (oy rfl rfl) (fun _ => rfl), ox_move 35 6 (.inr rfl) rfl rfl trivial (fun _ _ h => h), ox_move 48 7 (.inr rfl) rfl rfl trivial (fun _ _ h => h), trivial⟩ fun a37 w37 g37 st37 => ?_
      obtain ⟨hn37, hd37, e37_35, e37_36, e37_37, e37_38, e37_39, e37_40, e37_41, e37_42, e37_43, e37_44, e37_45, e37_46, e37_47, e37_48, e37_6, e37_7, e37_9, e37_10, e37_8, e37_4, e37_0, e37_2, e37_17, -⟩ := st37
      replace HB4_2 := rw_kn g37 HB4_2
      replace hr := hr.kn g37
      replace HG := grown_trans HG g37
      have sv37 : Sv 49 [] [(9, .int .i64 ((i : Int))), (10, .int .i64 ((j : Int))), (8, .int .i64 ((ks.length : Nat))), (4, .pointer (some ⟨B4_2, 0, none⟩)), (0, .slice ao ks.length cap), (2, .func (.func 80) #[] #[]), (17, .bool false), (6, .int .i64 ((i : Int))), (7, .bool (decide (y.o = o)))] a37 := ⟨hn37, hd37, e37_9, e37_10, e37_8, e37_4, e37_0, e37_2, e37_17, e37_6, e37_7, trivial⟩
      refine k36 _ _ ?_
      refine wp_ret ?_
      repeat refine then_ret ?_
      refine cx_ret (fn := Try.f91) sv37 (res_tmp2 (p := 6) (q := 7) Try.results91 sv37 rfl rfl rfl rfl) ?_
      exact ⟨ret2eq (by rw [hpos]) (fnd_is hpos hin hx_y), HG⟩
    · have sv38c : Sv 49 [] [(9, .int .i64 ((i : Int))), (10, .int .i64 ((j : Int))), (8, .int .i64 ((ks.length : Nat))), (4, .pointer (some ⟨B4_2, 0, none⟩)), (0, .slice ao ks.length cap), (2, .func (.func 80) #[] #[]), (17, .bool false)] a35 := ⟨sv35.1, sv35.2.1, sv35.2.2.1, sv35.2.2.2.1, sv35.2.2.2.2.1, sv35.2.2.2.2.2.2.2.1, sv35.2.2.2.2.2.2.2.2.1, sv35.2.2.2.2.2.2.2.2.2.1, sv35.2.2.2.2.2.2.2.2.2.2.1, trivial⟩
      refine rx_all (sv38c.st w35) (by kernel_rfl) [(35, Sp.is (.int .i64 ((i : Int)))), (36, Sp.is (.int .i64 ((i : Int)))), (37, Sp.is (.int .i64 ((ks.length : Nat)))), (38, Sp.is (.bool false)), (39, Sp.is (.bool false)), (40, Sp.is (undef)), (41, Sp.is (undef)), (42, Sp.is (undef)), (43, Sp.is (undef)), (44, Sp.is (undef)), (45, Sp.is (undef)), (46, Sp.is (undef)), (47, Sp.is (undef)), (48, Sp.is (.bool false)), (6, Sp.is (.int .i64 ((i : Int)))), (7, Sp.is (.bool false))] rfl (by kernel_rfl) (by kernel_rfl) (by kernel_rfl)
        ⟨xm rfl rfl rfl rfl rfl, xm rfl rfl rfl rfl rfl, xm rfl rfl rfl rfl rfl, ox_bin rfl rfl trivial (oy rfl rfl) (oy rfl rfl) (fun _ => rn_lss (by simp; omega)) (fun _ => rfl), xm rfl rfl rfl rfl rfl, ox_off (gn rfl rfl rfl) rfl (fun _ => rfl), ox_off (gn rfl rfl rfl) rfl (fun _ => rfl), ox_off (gn rfl rfl rfl) rfl (fun _ => rfl), ox_off (gn rfl rfl rfl) rfl (fun _ => rfl), ox_off (gn rfl rfl rfl) rfl (fun _ => rfl), ox_off (gn rfl rfl rfl) rfl (fun _ => rfl), ox_off (gn rfl rfl rfl) rfl (fun _ => rfl), ox_off (gn rfl rfl rfl) rfl (fun _ => rfl), ox_pick rfl rfl trivial (oy rfl rfl) rfl (fun _ => rfl), ox_move 35 6 (.inr rfl) rfl rfl trivial (fun _ _ h => h), ox_move 48 7 (.inr rfl) rfl rfl trivial (fun _ _ h => h), trivial⟩ fun a38 w38 g38 st38 => ?_
      obtain ⟨hn38, hd38, e38_35, e38_36, e38_37, e38_38, e38_39, e38_40, e38_41, e38_42, e38_43, e38_44, e38_45, e38_46, e38_47, e38_48, e38_6, e38_7, e38_9, e38_10, e38_8, e38_4, e38_0, e38_2, e38_17, -⟩ := st38
      replace HB4_2 := rw_kn g38 HB4_2
      replace hr := hr.kn g38
      replace HG := grown_trans HG g38
      have sv38 : Sv 49 [] [(9, .int .i64 ((i : Int))), (10, .int .i64 ((j : Int))), (8, .int .i64 ((ks.length : Nat))), (4, .pointer (some ⟨B4_2, 0, none⟩)), (0, .slice ao ks.length cap), (2, .func (.func 80) #[] #[]), (17, .bool false), (6, .int .i64 ((i : Int))), (7, .bool false)] a38 := ⟨hn38, hd38, e38_9, e38_10, e38_8, e38_4, e38_0, e38_2, e38_17, e38_6, e38_7, trivial⟩
      refine k36 _ _ ?_
      refine wp_ret ?_
      repeat refine then_ret ?_
      refine cx_ret (fn := Try.f91) sv38 (res_tmp2 (p := 6) (q := 7) Try.results91 sv38 rfl rfl rfl rfl) ?_
      exact ⟨ret2eq (by rw [hpos]) (fnd_end (by rw [hpos]; exact hin)), HG⟩
end Go.Proofs.Yteakoleceoclkaa
