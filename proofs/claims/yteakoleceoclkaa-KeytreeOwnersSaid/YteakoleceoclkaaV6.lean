/- Vaults: NewVault, Key. (printed by gen_v6.py) -/
import Derived.Test.YteakoleceoclkaaV5
namespace Go.Proofs.Yteakoleceoclkaa
open Go.RowKit Go.Shelf
set_option linter.unusedSimpArgs false
set_option linter.unusedVariables false
def kd (n : Nat) (k : List Nat) : List Nat := keyed (BitVec.ofNat 64 n) k []
theorem kd_dg (n : Nat) (k : List Nat) : Dg (kd n k) := ⟨dig_len _ _, dig_lt _ _⟩
theorem keyed_c {n : Nat} (hn : n < 1000) {c : Int} (hc : c = (n : Int)) {k : List Nat} (hk : Dg k) (w : World) : Calls Try.prog 67 #[.int .u64 c, dval k, .slice none 0 0] w fun e w' => e = .returned (dval (kd n k)) ∧ w.grownBy w' none := by
  have e : c = wi (BitVec.ofNat 64 n) := by rw [hc, ← u64_wi, IntKind.wrap_u64]; omega
  rw [e]
  exact keyed_walk (BitVec.ofNat 64 n) k [] hk.1 hk.2 (by simp) (by simp) _ w (Sl.nil w 1)
theorem bV0 (w : World) : (Instr.build 58 #[]).run Try.prog w = .ok (vval zero32 zero32 (.slice none 0 0)) w := by kernel_rfl
theorem bV2 {sa po : List Nat} (hs : Dg sa) (hp : Dg po) (w : World) : (Instr.build 58 #[(0, dval sa), (1, dval po)]).run Try.prog w = .ok (vval sa po (.slice none 0 0)) w := by
  obtain ⟨x0, x1, x2, x3, x4, x5, x6, x7, x8, x9, x10, x11, x12, x13, x14, x15, x16, x17, x18, x19, x20, x21, x22, x23, x24, x25, x26, x27, x28, x29, x30, x31, rfl⟩ := list32 _ hs.1
  obtain ⟨y0, y1, y2, y3, y4, y5, y6, y7, y8, y9, y10, y11, y12, y13, y14, y15, y16, y17, y18, y19, y20, y21, y22, y23, y24, y25, y26, y27, y28, y29, y30, y31, rfl⟩ := list32 _ hp.1
  kernel_rfl
theorem bK2' {o : List Nat} (ho : Dg o) (ao : Option Addr) (n cap : Nat) (w : World) : (Instr.build 65 #[(0, dval o), (1, .agg #[.slice ao n cap])]).run Try.prog w = .ok (.agg ([bv o, [.slice ao n cap]].flatten).toArray) w := by
  obtain ⟨x0, x1, x2, x3, x4, x5, x6, x7, x8, x9, x10, x11, x12, x13, x14, x15, x16, x17, x18, x19, x20, x21, x22, x23, x24, x25, x26, x27, x28, x29, x30, x31, rfl⟩ := list32 _ ho.1
  kernel_rfl
theorem bK2 {k : VK} (w : World) : (Instr.build 65 #[(0, dval k.o), (1, .agg #[k.s])]).run Try.prog w = .ok (kval k) w := bK2' k.ho k.ao k.l.length k.cap w
theorem bT1s (ao : Option Addr) (n cap : Nat) (w : World) : (Instr.build 34 #[(0, .slice ao n cap)]).run Try.prog w = .ok (.agg #[.slice ao n cap]) w := by kernel_rfl
theorem isaddr_B {a : Int} {b : Bool} (h : isAddr a = b) (w : World) : Calls Try.prog 53 #[.int .i64 a] w fun e w' => e = .returned (.bool b) ∧ w.grownBy w' none := (isAddress_walk a w).mono fun e w' ⟨h1, h2⟩ => ⟨h ▸ h1, h2 ▸ World.grownBy.refl _ _⟩
theorem vvalid_B {w : World} {ks : List VK} {ao : Option Addr} {cap : Nat} {sa po : List Nat} (hsa : Dg sa) (hpo : Dg po) (hr : RdK w (.slice ao ks.length cap) ks) {b : Bool} (hb : vldV (ks.map VK.p) = b) : Calls Try.prog 45 #[vval sa po (.slice ao ks.length cap)] w fun e w' => e = .returned (.bool b) ∧ w.grownBy w' none := hb ▸ vvalid_walk ks ao cap sa po hsa hpo w hr
theorem find_B {w : World} {ks : List VK} {ao : Option Addr} {cap : Nat} {sa po o : List Nat} (hsa : Dg sa) (hpo : Dg po) (ho : Dg o) (hr : RdK w (.slice ao ks.length cap) ks) (hv : vldV (ks.map VK.p) = true) {b : Bool} (hb : fnd (ks.map VK.p) o = b) {i : Nat} (hi : pos (ks.map VK.p) o = i) : Calls Try.prog 70 #[vval sa po (.slice ao ks.length cap), dval o] w fun e w' => e = .returned (.tuple #[.int .i64 (i : Int), .bool b]) ∧ w.grownBy w' none :=
  hb ▸ hi ▸ find_walk ks ao cap sa po hsa hpo o ho w hr (Srt.of hv) (by have := (vldV_iff.1 hv).1; simpa using this)
theorem retK {x y : List Nat × Int} (h : x = y) : Ending.returned (.tuple #[dval x.1, .int .i64 x.2]) = Ending.returned (.tuple #[dval y.1, .int .i64 y.2]) := by rw [h]
theorem retK' {x : List Nat} {c : Int} {y : List Nat × Int} (h : y = (x, c)) : Ending.returned (.tuple #[dval x, .int .i64 c]) = Ending.returned (.tuple #[dval y.1, .int .i64 y.2]) := by rw [h]
theorem keyO_bad {P : List VP} {o : List Nat} {a : Int} (h : isAddr a = false ∨ vldV P = false) : keyO P o a = (zero32, 1) := by
  unfold keyO
  rcases h with h | h <;> simp [h]
theorem keyO_none {P : List VP} {o : List Nat} {a : Int} (h1 : isAddr a = true) (h2 : vldV P = true) (h3 : fnd P o = false) : keyO P o a = (zero32, 10) := by
  unfold keyO
  simp [h1, h2, h3]
theorem keyO_leaf {P : List VP} {o : List Nat} {a : Int} (h1 : isAddr a = true) (h2 : vldV P = true) (h3 : fnd P o = true) {i : Nat} (hi : pos P o = i) {l : List Nd} (hl : tr P i = l) : keyO P o a = leafOf l a := by
  unfold keyO
  simp [h1, h2, h3, hi, hl]
set_option maxRecDepth 100000 in
set_option maxHeartbeats 4000000 in
theorem newv_walk (k : List Nat) (hk : Dg k) (w : World) :
    Calls Try.prog 35 #[dval k] w fun e w' => e = .returned (vval (kd 273 k) (kd 274 k) (.slice none 0 0)) ∧ w.grownBy w' none := by
  refine cx_enterD Try.func35 rfl Try.ntmps35 rfl fun a0 sv0 => ?_
  have HG := World.grownBy.refl w none
  replace sv0 : Sv 8 [] [(0, dval k)] a0 := sv0
  refine wp_seq_k fun K1 k1 => ?_
  refine wp_region_lit ?_
  refine tl_box sv0 rfl rfl rfl rfl rfl rfl (tyD k hk.1) fun a2 w2 B1_2 eq_B1_2 g2 z2 HB1_2 sv2 => ?_
  have lo_B1_2 := nb_lo HG eq_B1_2
  replace HG := grown_trans HG g2
  replace sv2 : Sv 8 [] [(1, .pointer (some ⟨B1_2, 0, none⟩)), (0, dval k)] a2 := sv2
  refine tl_alloc (T := 58) (Z := ([bv zero32, bv zero32, [.slice none 0 0]].flatten)) sv2 rfl rfl rfl (fun a w => by kernel_rfl) fun a3 w3 B2_3 eq_B2_3 g3 z3 HB2_3 sv3 => ?_
  have ne_B2_3_B1_2 := nb_ne HB1_2 eq_B2_3
  have lo_B2_3 := nb_lo HG eq_B2_3
  replace HB1_2 := rw_kn g3 HB1_2
  replace HG := grown_trans HG g3
  replace sv3 : Sv 8 [] [(2, .pointer (some ⟨B2_3, 0, none⟩)), (1, .pointer (some ⟨B1_2, 0, none⟩)), (0, dval k)] a3 := sv3
  have sv4 : Sv 8 [] [(2, .pointer (some ⟨B2_3, 0, none⟩)), (1, .pointer (some ⟨B1_2, 0, none⟩))] a3 := ⟨sv3.1, sv3.2.1, sv3.2.2.1, sv3.2.2.2.1, trivial⟩
  refine tl_nil ?_
  refine k1 _ _ ?_
  refine wp_seq_k fun K5 k5 => ?_
  refine wp_region_lit ?_
  refine tl_defer sv4 rfl (dd := { target := .fn (.func 66) #[], args := #[] }) rfl (by simp [execOp, resolve, Deferred.ofValue]; try rfl) fun a6 sv6 => ?_
  refine tl_nil ?_
  refine k5 _ _ ?_
  refine wp_seq_k fun K7 k7 => ?_
  refine rx_tail (sv6.st w3) (by kernel_rfl) 5 [(3, Sp.is (dval k)), (4, Sp.is (dval ((kd 273 k)))), (5, Sp.is (dval k)), (6, Sp.is (dval ((kd 274 k)))), (7, Sp.is (vval ((kd 273 k)) ((kd 274 k)) (.slice none 0 0)))] rfl (by kernel_rfl) (by kernel_rfl) (by kernel_rfl) [] (by kernel_rfl)
    ⟨xl rfl rfl rfl rfl rfl (tyD k hk.1) HB1_2 rfl, ox_call (Sp.is (dval ((kd 273 k)))) [.int .u64 273, dval k, .slice none 0 0] rfl rfl trivial ⟨rfl, (oy rfl rfl), rfl, trivial⟩ (is_on fun W g => keyed_c (n := 273) (by decide) rfl hk W) (fun _ _ h => h) (enter_of Try.func67 (by kernel_rfl) rfl), xl rfl rfl rfl rfl rfl (tyD k hk.1) HB1_2 rfl, ox_call (Sp.is (dval ((kd 274 k)))) [.int .u64 274, dval k, .slice none 0 0] rfl rfl trivial ⟨rfl, (oy rfl rfl), rfl, trivial⟩ (is_on fun W g => keyed_c (n := 274) (by decide) rfl hk W) (fun _ _ h => h) (enter_of Try.func67 (by kernel_rfl) rfl), ox_build (vs := [dval ((kd 273 k)), dval ((kd 274 k))]) rfl rfl trivial ⟨(oy rfl rfl), (oy rfl rfl), trivial⟩ (fun _ => bV2 (kd_dg _ _) (kd_dg _ _) _) (fun _ => rfl), trivial⟩ trivial
    [] (by kernel_rfl) trivial ⟨.inl rfl, .inl rfl, .inl rfl, .inl rfl, .inl rfl, trivial⟩ (by kernel_rfl) fun a8 w8 g8 st8 nd8 => ?_
  obtain ⟨hn8, hd8, e8_3, e8_4, e8_5, e8_6, e8_7, e8_2, e8_1, -⟩ := st8
  replace HB1_2 := rw_kn g8 HB1_2
  replace HB2_3 := rw_kn g8 HB2_3
  replace HG := grown_trans HG g8
  have sv8 : Sv 8 [{ target := .fn (.func 66) #[], args := #[] }] [(2, .pointer (some ⟨B2_3, 0, none⟩)), (1, .pointer (some ⟨B1_2, 0, none⟩)), (7, vval ((kd 273 k)) ((kd 274 k)) (.slice none 0 0))] a8 := ⟨hn8, hd8, e8_2, e8_1, e8_7, trivial⟩
  refine tl_storeW sv8 rfl rfl rfl rfl rfl rfl rfl (tyVa (kd_dg _ _) (kd_dg _ _) (.slice none 0 0) rfl) HB2_3 (by first | rfl | simp [kcells, bv_length, zero32_len, (kd_dg _ _).1, (kd_dg _ _).1]) fun w9 g9 h9 => ?_
  replace HB1_2 := rw_st g9 HB1_2 (Ne.symm ne_B2_3_B1_2)
  replace HG := grown_newR HG g9 lo_B2_3
  replace HB2_3 := h9
  have sv10 : Sv 8 [{ target := .fn (.func 66) #[], args := #[] }] [(2, .pointer (some ⟨B2_3, 0, none⟩))] a8 := ⟨sv8.1, sv8.2.1, sv8.2.2.1, trivial⟩
  refine tl_nil ?_
  refine k7 _ _ ?_
  refine wp_ret ?_
  repeat refine then_ret ?_
  refine cx_retD (fn := Try.f35) sv10 (res_cell (p := 2) Try.results35 sv10 rfl rfl (tyVa (kd_dg _ _) (kd_dg _ _) (.slice none 0 0) rfl) HB2_3) (inv_of Try.func66 (by kernel_rfl) rfl _ _) (recNewVault_walk _) ?_
  exact ⟨rfl, HG⟩
set_option maxRecDepth 100000 in
set_option maxHeartbeats 4000000 in
theorem key_walk (ks : List VK) (ao : Option Addr) (cap : Nat) (sa po : List Nat) (hsa : Dg sa) (hpo : Dg po) (o : List Nat) (ho : Dg o) (a : Int) (w : World) (hr : RdK w (.slice ao ks.length cap) ks) :
    Calls Try.prog 39 #[vval sa po (.slice ao ks.length cap), dval o, .int .i64 a] w fun e w' => e = .returned (.tuple #[dval (keyO (ks.map VK.p) o a).1, .int .i64 (keyO (ks.map VK.p) o a).2]) ∧ w.grownBy w' none := by
  refine cx_enterD Try.func39 rfl Try.ntmps39 rfl fun a0 sv0 => ?_
  have HG := World.grownBy.refl w none
  replace sv0 : Sv 39 [] [(0, vval sa po (.slice ao ks.length cap)), (1, dval o), (2, .int .i64 a)] a0 := sv0
  refine wp_seq_k fun K1 k1 => ?_
  refine wp_region_lit ?_
  refine tl_box sv0 rfl rfl rfl rfl rfl rfl (tyVa hsa hpo (.slice ao ks.length cap) rfl) fun a2 w2 B3_2 eq_B3_2 g2 z2 HB3_2 sv2 => ?_
  have lo_B3_2 := nb_lo HG eq_B3_2
  have ap_hr_B3_2 := nb_ap (hr.lt) eq_B3_2
  replace hr := hr.kn g2
  replace HG := grown_trans HG g2
  replace sv2 : Sv 39 [] [(3, .pointer (some ⟨B3_2, 0, none⟩)), (0, vval sa po (.slice ao ks.length cap)), (1, dval o), (2, .int .i64 a)] a2 := sv2
  refine tl_box sv2 rfl rfl rfl rfl rfl rfl (tyD o ho.1) fun a3 w3 B4_3 eq_B4_3 g3 z3 HB4_3 sv3 => ?_
  have ne_B4_3_B3_2 := nb_ne HB3_2 eq_B4_3
  have lo_B4_3 := nb_lo HG eq_B4_3
  have ap_hr_B4_3 := nb_ap (hr.lt) eq_B4_3
  replace HB3_2 := rw_kn g3 HB3_2
  replace hr := hr.kn g3
  replace HG := grown_trans HG g3
  replace sv3 : Sv 39 [] [(4, .pointer (some ⟨B4_3, 0, none⟩)), (3, .pointer (some ⟨B3_2, 0, none⟩)), (0, vval sa po (.slice ao ks.length cap)), (1, dval o), (2, .int .i64 a)] a3 := sv3
  refine tl_alloc (T := 29) (Z := (bv zero32)) sv3 rfl rfl rfl (fun a w => by kernel_rfl) fun a4 w4 B6_4 eq_B6_4 g4 z4 HB6_4 sv4 => ?_
  have ne_B6_4_B3_2 := nb_ne HB3_2 eq_B6_4
  have ne_B6_4_B4_3 := nb_ne HB4_3 eq_B6_4
  have lo_B6_4 := nb_lo HG eq_B6_4
  have ap_hr_B6_4 := nb_ap (hr.lt) eq_B6_4
  replace HB3_2 := rw_kn g4 HB3_2
  replace HB4_3 := rw_kn g4 HB4_3
  replace hr := hr.kn g4
  replace HG := grown_trans HG g4
  replace sv4 : Sv 39 [] [(6, .pointer (some ⟨B6_4, 0, none⟩)), (4, .pointer (some ⟨B4_3, 0, none⟩)), (3, .pointer (some ⟨B3_2, 0, none⟩)), (0, vval sa po (.slice ao ks.length cap)), (1, dval o), (2, .int .i64 a)] a4 := sv4
  refine tl_alloc (T := 23) (Z := [.int .i64 0]) sv4 rfl rfl rfl (fun a w => by kernel_rfl) fun a5 w5 B7_5 eq_B7_5 g5 z5 HB7_5 sv5 => ?_
  have ne_B7_5_B3_2 := nb_ne HB3_2 eq_B7_5
  have ne_B7_5_B4_3 := nb_ne HB4_3 eq_B7_5
  have ne_B7_5_B6_4 := nb_ne HB6_4 eq_B7_5
  have lo_B7_5 := nb_lo HG eq_B7_5
  have ap_hr_B7_5 := nb_ap (hr.lt) eq_B7_5
  replace HB3_2 := rw_kn g5 HB3_2
  replace HB4_3 := rw_kn g5 HB4_3
  replace HB6_4 := rw_kn g5 HB6_4
  replace hr := hr.kn g5
  replace HG := grown_trans HG g5
  replace sv5 : Sv 39 [] [(7, .pointer (some ⟨B7_5, 0, none⟩)), (6, .pointer (some ⟨B6_4, 0, none⟩)), (4, .pointer (some ⟨B4_3, 0, none⟩)), (3, .pointer (some ⟨B3_2, 0, none⟩)), (0, vval sa po (.slice ao ks.length cap)), (1, dval o), (2, .int .i64 a)] a5 := sv5
  have sv6 : Sv 39 [] [(7, .pointer (some ⟨B7_5, 0, none⟩)), (6, .pointer (some ⟨B6_4, 0, none⟩)), (4, .pointer (some ⟨B4_3, 0, none⟩)), (3, .pointer (some ⟨B3_2, 0, none⟩)), (2, .int .i64 a)] a5 := ⟨sv5.1, sv5.2.1, sv5.2.2.1, sv5.2.2.2.1, sv5.2.2.2.2.1, sv5.2.2.2.2.2.1, sv5.2.2.2.2.2.2.2.2.1, trivial⟩
  refine tl_nil ?_
  refine k1 _ _ ?_
  refine wp_seq_k fun K7 k7 => ?_
  refine wp_region_lit ?_
  refine tl_makeFunc sv6 rfl rfl rfl rfl rfl rfl fun a8 sv8 => ?_
  replace sv8 : Sv 39 [] [(10, .func (.func 74) #[] #[.pointer (some ⟨B6_4, 0, none⟩), .pointer (some ⟨B7_5, 0, none⟩)]), (7, .pointer (some ⟨B7_5, 0, none⟩)), (6, .pointer (some ⟨B6_4, 0, none⟩)), (4, .pointer (some ⟨B4_3, 0, none⟩)), (3, .pointer (some ⟨B3_2, 0, none⟩)), (2, .int .i64 a)] a8 := sv8
  refine tl_defer sv8 rfl (dd := { target := .fn (.func 74) #[.pointer (some ⟨B6_4, 0, none⟩), .pointer (some ⟨B7_5, 0, none⟩)], args := #[] }) rfl (by have e1 := sv8.ev (x := .tmp 10) rfl rfl; simp [execOp, resolve, Deferred.ofValue, e1]; try rfl) fun a9 sv9 => ?_
  have sv10 : Sv 39 [{ target := .fn (.func 74) #[.pointer (some ⟨B6_4, 0, none⟩), .pointer (some ⟨B7_5, 0, none⟩)], args := #[] }] [(7, .pointer (some ⟨B7_5, 0, none⟩)), (6, .pointer (some ⟨B6_4, 0, none⟩)), (4, .pointer (some ⟨B4_3, 0, none⟩)), (3, .pointer (some ⟨B3_2, 0, none⟩)), (2, .int .i64 a)] a9 := ⟨sv9.1, sv9.2.1, sv9.2.2.2.1, sv9.2.2.2.2.1, sv9.2.2.2.2.2.1, sv9.2.2.2.2.2.2.1, sv9.2.2.2.2.2.2.2.1, trivial⟩
  refine tl_nil ?_
  refine k7 _ _ ?_
  refine wp_seq_k fun K11 k11 => ?_
  refine wp_seq_k fun K12 k12 => ?_
  rcases (show isAddr a = false ∨ (isAddr a = true ∧ vldV (ks.map VK.p) = false) ∨ (isAddr a = true ∧ vldV (ks.map VK.p) = true) by cases isAddr a <;> cases vldV (ks.map VK.p) <;> simp) with ha | ⟨ha, hv⟩ | ⟨ha, hv⟩
  · refine wp_region_lit ?_
    refine sx_head (sv10.st w5) 8 [(11, Sp.is (.int .i64 a)), (12, Sp.is (.bool false)), (13, Sp.is (.bool true)), (14, Sp.is (.bool true)), (15, Sp.is (undef)), (16, Sp.is (undef)), (17, Sp.is (undef)), (18, Sp.is (.bool true))] rfl (by kernel_rfl) (by kernel_rfl) (by kernel_rfl)
      ⟨xm rfl rfl rfl rfl rfl, ox_call (Sp.is (.bool false)) [.int .i64 a] rfl rfl trivial ⟨(oy rfl rfl), trivial⟩ (is_on fun W g => isaddr_B ha W) (fun _ _ h => h) (enter_of Try.func53 (by kernel_rfl) rfl), ox_un rfl rfl trivial (oy rfl rfl) (fun _ => rn_not) (fun _ => rfl), xm rfl rfl rfl rfl rfl, ox_off (gn rfl rfl rfl) rfl (fun _ => rfl), ox_off (gn rfl rfl rfl) rfl (fun _ => rfl), ox_off (gn rfl rfl rfl) rfl (fun _ => rfl), ox_pick rfl rfl trivial (oy rfl rfl) rfl (fun _ => rfl), trivial⟩ fun a13 w13 g13 st13 => ?_
    obtain ⟨hn13, hd13, e13_11, e13_12, e13_13, e13_14, e13_15, e13_16, e13_17, e13_18, e13_7, e13_6, e13_4, e13_3, e13_2, -⟩ := st13
    replace HB3_2 := rw_kn g13 HB3_2
    replace HB4_3 := rw_kn g13 HB4_3
    replace HB6_4 := rw_kn g13 HB6_4
    replace HB7_5 := rw_kn g13 HB7_5
    replace hr := hr.kn g13
    replace HG := grown_trans HG g13
    have sv13 : Sv 39 [{ target := .fn (.func 74) #[.pointer (some ⟨B6_4, 0, none⟩), .pointer (some ⟨B7_5, 0, none⟩)], args := #[] }] [(7, .pointer (some ⟨B7_5, 0, none⟩)), (6, .pointer (some ⟨B6_4, 0, none⟩)), (4, .pointer (some ⟨B4_3, 0, none⟩)), (3, .pointer (some ⟨B3_2, 0, none⟩)), (2, .int .i64 a), (18, .bool true)] a13 := ⟨hn13, hd13, e13_7, e13_6, e13_4, e13_3, e13_2, e13_18, trivial⟩
    refine tl_nil ?_
    refine k12 _ _ ?_
    refine cx_ifT sv13 rfl rfl ?_
    refine wp_seq_k fun K14 k14 => ?_
    refine wp_region_lit ?_
    refine sx_head (sv13.st w13) 1 [(19, Sp.is (dval zero32))] rfl (by kernel_rfl) (by kernel_rfl) (by kernel_rfl)
      ⟨ox_build (vs := []) rfl rfl trivial trivial (fun _ => bD0 _) (fun _ => rfl), trivial⟩ fun a15 w15 g15 st15 => ?_
    obtain ⟨hn15, hd15, e15_19, e15_7, e15_6, e15_4, e15_3, e15_2, e15_18, -⟩ := st15
    replace HB3_2 := rw_kn g15 HB3_2
    replace HB4_3 := rw_kn g15 HB4_3
    replace HB6_4 := rw_kn g15 HB6_4
    replace HB7_5 := rw_kn g15 HB7_5
    replace hr := hr.kn g15
    replace HG := grown_trans HG g15
    have sv15 : Sv 39 [{ target := .fn (.func 74) #[.pointer (some ⟨B6_4, 0, none⟩), .pointer (some ⟨B7_5, 0, none⟩)], args := #[] }] [(7, .pointer (some ⟨B7_5, 0, none⟩)), (6, .pointer (some ⟨B6_4, 0, none⟩)), (4, .pointer (some ⟨B4_3, 0, none⟩)), (3, .pointer (some ⟨B3_2, 0, none⟩)), (2, .int .i64 a), (18, .bool true), (19, dval zero32)] a15 := ⟨hn15, hd15, e15_7, e15_6, e15_4, e15_3, e15_2, e15_18, e15_19, trivial⟩
    refine tl_storeW sv15 rfl rfl rfl rfl rfl rfl rfl (tyD zero32 zero32_dg.1) HB6_4 (lenD zero32_dg) fun w16 g16 h16 => ?_
    replace HB3_2 := rw_st g16 HB3_2 (Ne.symm ne_B6_4_B3_2)
    replace HB4_3 := rw_st g16 HB4_3 (Ne.symm ne_B6_4_B4_3)
    replace HB7_5 := rw_st g16 HB7_5 ne_B7_5_B6_4
    replace hr := hr.offR g16 (fun k hk e => ap_hr_B6_4 k hk (Option.some.inj e).symm)
    replace HG := grown_newR HG g16 lo_B6_4
    replace HB6_4 := h16
    refine tl_storeW sv15 rfl rfl rfl rfl rfl rfl rfl (tyE 1) HB7_5 rfl fun w17 g17 h17 => ?_
    replace HB3_2 := rw_st g17 HB3_2 (Ne.symm ne_B7_5_B3_2)
    replace HB4_3 := rw_st g17 HB4_3 (Ne.symm ne_B7_5_B4_3)
    replace HB6_4 := rw_st g17 HB6_4 (Ne.symm ne_B7_5_B6_4)
    replace hr := hr.offR g17 (fun k hk e => ap_hr_B7_5 k hk (Option.some.inj e).symm)
    replace HG := grown_newR HG g17 lo_B7_5
    replace HB7_5 := h17
    have sv18 : Sv 39 [{ target := .fn (.func 74) #[.pointer (some ⟨B6_4, 0, none⟩), .pointer (some ⟨B7_5, 0, none⟩)], args := #[] }] [(7, .pointer (some ⟨B7_5, 0, none⟩)), (6, .pointer (some ⟨B6_4, 0, none⟩)), (4, .pointer (some ⟨B4_3, 0, none⟩)), (3, .pointer (some ⟨B3_2, 0, none⟩)), (2, .int .i64 a), (18, .bool true)] a15 := ⟨sv15.1, sv15.2.1, sv15.2.2.1, sv15.2.2.2.1, sv15.2.2.2.2.1, sv15.2.2.2.2.2.1, sv15.2.2.2.2.2.2.1, sv15.2.2.2.2.2.2.2.1, trivial⟩
    refine tl_nil ?_
    refine k14 _ _ ?_
    refine wp_ret ?_
    repeat refine then_ret ?_
    refine cx_retD (fn := Try.f39) sv18 (res_cell2 (p := 6) (q := 7) Try.results39 sv18 rfl rfl rfl rfl (tyD zero32 zero32_dg.1) (tyE 1) HB6_4 HB7_5) (inv_of Try.func74 (by kernel_rfl) rfl _ _) (recKey_walk _ _ _) ?_
    exact ⟨retK' (keyO_bad (.inl ha)), HG⟩
  · refine wp_region_lit ?_
    refine sx_head (sv10.st w5) 8 [(11, Sp.is (.int .i64 a)), (12, Sp.is (.bool true)), (13, Sp.is (.bool false)), (14, Sp.is (.bool false)), (15, Sp.is (vval sa po (.slice ao ks.length cap))), (16, Sp.is (.bool false)), (17, Sp.is (.bool true)), (18, Sp.is (.bool true))] rfl (by kernel_rfl) (by kernel_rfl) (by kernel_rfl)
      ⟨xm rfl rfl rfl rfl rfl, ox_call (Sp.is (.bool true)) [.int .i64 a] rfl rfl trivial ⟨(oy rfl rfl), trivial⟩ (is_on fun W g => isaddr_B ha W) (fun _ _ h => h) (enter_of Try.func53 (by kernel_rfl) rfl), ox_un rfl rfl trivial (oy rfl rfl) (fun _ => rn_not) (fun _ => rfl), xm rfl rfl rfl rfl rfl, ox_load rfl rfl (gy rfl rfl rfl) (oy rfl rfl) (fun _ g => loadsAt (tyVa hsa hpo (.slice ao ks.length cap) rfl) (rangeAt_row (row_of g HB3_2 (by simp)))) (fun _ => rfl), ox_call (Sp.is (.bool false)) [vval sa po (.slice ao ks.length cap)] rfl rfl (gy rfl rfl rfl) ⟨(oy rfl rfl), trivial⟩ (is_on fun W g => vvalid_B hsa hpo (hr.kn g) hv) (fun _ _ h => h) (enter_of Try.func45 (by kernel_rfl) rfl), ox_un rfl rfl (gy rfl rfl rfl) (oy rfl rfl) (fun _ => rn_not) (fun _ => rfl), ox_pick rfl rfl trivial (oy rfl rfl) (oy rfl rfl) (fun _ => rfl), trivial⟩ fun a19 w19 g19 st19 => ?_
    obtain ⟨hn19, hd19, e19_11, e19_12, e19_13, e19_14, e19_15, e19_16, e19_17, e19_18, e19_7, e19_6, e19_4, e19_3, e19_2, -⟩ := st19
    replace HB3_2 := rw_kn g19 HB3_2
    replace HB4_3 := rw_kn g19 HB4_3
    replace HB6_4 := rw_kn g19 HB6_4
    replace HB7_5 := rw_kn g19 HB7_5
    replace hr := hr.kn g19
    replace HG := grown_trans HG g19
    have sv19 : Sv 39 [{ target := .fn (.func 74) #[.pointer (some ⟨B6_4, 0, none⟩), .pointer (some ⟨B7_5, 0, none⟩)], args := #[] }] [(7, .pointer (some ⟨B7_5, 0, none⟩)), (6, .pointer (some ⟨B6_4, 0, none⟩)), (4, .pointer (some ⟨B4_3, 0, none⟩)), (3, .pointer (some ⟨B3_2, 0, none⟩)), (2, .int .i64 a), (18, .bool true)] a19 := ⟨hn19, hd19, e19_7, e19_6, e19_4, e19_3, e19_2, e19_18, trivial⟩
    refine tl_nil ?_
    refine k12 _ _ ?_
    refine cx_ifT sv19 rfl rfl ?_
    refine wp_seq_k fun K20 k20 => ?_
    refine wp_region_lit ?_
    refine sx_head (sv19.st w19) 1 [(19, Sp.is (dval zero32))] rfl (by kernel_rfl) (by kernel_rfl) (by kernel_rfl)
      ⟨ox_build (vs := []) rfl rfl trivial trivial (fun _ => bD0 _) (fun _ => rfl), trivial⟩ fun a21 w21 g21 st21 => ?_
    obtain ⟨hn21, hd21, e21_19, e21_7, e21_6, e21_4, e21_3, e21_2, e21_18, -⟩ := st21
    replace HB3_2 := rw_kn g21 HB3_2
    replace HB4_3 := rw_kn g21 HB4_3
    replace HB6_4 := rw_kn g21 HB6_4
    replace HB7_5 := rw_kn g21 HB7_5
    replace hr := hr.kn g21
    replace HG := grown_trans HG g21
    have sv21 : Sv 39 [{ target := .fn (.func 74) #[.pointer (some ⟨B6_4, 0, none⟩), .pointer (some ⟨B7_5, 0, none⟩)], args := #[] }] [(7, .pointer (some ⟨B7_5, 0, none⟩)), (6, .pointer (some ⟨B6_4, 0, none⟩)), (4, .pointer (some ⟨B4_3, 0, none⟩)), (3, .pointer (some ⟨B3_2, 0, none⟩)), (2, .int .i64 a), (18, .bool true), (19, dval zero32)] a21 := ⟨hn21, hd21, e21_7, e21_6, e21_4, e21_3, e21_2, e21_18, e21_19, trivial⟩
    refine tl_storeW sv21 rfl rfl rfl rfl rfl rfl rfl (tyD zero32 zero32_dg.1) HB6_4 (lenD zero32_dg) fun w22 g22 h22 => ?_
    replace HB3_2 := rw_st g22 HB3_2 (Ne.symm ne_B6_4_B3_2)
    replace HB4_3 := rw_st g22 HB4_3 (Ne.symm ne_B6_4_B4_3)
    replace HB7_5 := rw_st g22 HB7_5 ne_B7_5_B6_4
    replace hr := hr.offR g22 (fun k hk e => ap_hr_B6_4 k hk (Option.some.inj e).symm)
    replace HG := grown_newR HG g22 lo_B6_4
    replace HB6_4 := h22
    refine tl_storeW sv21 rfl rfl rfl rfl rfl rfl rfl (tyE 1) HB7_5 rfl fun w23 g23 h23 => ?_
    replace HB3_2 := rw_st g23 HB3_2 (Ne.symm ne_B7_5_B3_2)
    replace HB4_3 := rw_st g23 HB4_3 (Ne.symm ne_B7_5_B4_3)
    replace HB6_4 := rw_st g23 HB6_4 (Ne.symm ne_B7_5_B6_4)
    replace hr := hr.offR g23 (fun k hk e => ap_hr_B7_5 k hk (Option.some.inj e).symm)
    replace HG := grown_newR HG g23 lo_B7_5
    replace HB7_5 := h23
    have sv24 : Sv 39 [{ target := .fn (.func 74) #[.pointer (some ⟨B6_4, 0, none⟩), .pointer (some ⟨B7_5, 0, none⟩)], args := #[] }] [(7, .pointer (some ⟨B7_5, 0, none⟩)), (6, .pointer (some ⟨B6_4, 0, none⟩)), (4, .pointer (some ⟨B4_3, 0, none⟩)), (3, .pointer (some ⟨B3_2, 0, none⟩)), (2, .int .i64 a), (18, .bool true)] a21 := ⟨sv21.1, sv21.2.1, sv21.2.2.1, sv21.2.2.2.1, sv21.2.2.2.2.1, sv21.2.2.2.2.2.1, sv21.2.2.2.2.2.2.1, sv21.2.2.2.2.2.2.2.1, trivial⟩
    refine tl_nil ?_
    refine k20 _ _ ?_
    refine wp_ret ?_
    repeat refine then_ret ?_
    refine cx_retD (fn := Try.f39) sv24 (res_cell2 (p := 6) (q := 7) Try.results39 sv24 rfl rfl rfl rfl (tyD zero32 zero32_dg.1) (tyE 1) HB6_4 HB7_5) (inv_of Try.func74 (by kernel_rfl) rfl _ _) (recKey_walk _ _ _) ?_
    exact ⟨retK' (keyO_bad (.inr hv)), HG⟩
  · obtain ⟨i, hi⟩ : ∃ i, pos (ks.map VK.p) o = i := ⟨_, rfl⟩
    have h64 : ks.length ≤ 64 := by have := (vldV_iff.1 hv).1; simpa using this
    refine wp_region_lit ?_
    refine sx_head (sv10.st w5) 8 [(11, Sp.is (.int .i64 a)), (12, Sp.is (.bool true)), (13, Sp.is (.bool false)), (14, Sp.is (.bool false)), (15, Sp.is (vval sa po (.slice ao ks.length cap))), (16, Sp.is (.bool true)), (17, Sp.is (.bool false)), (18, Sp.is (.bool false))] rfl (by kernel_rfl) (by kernel_rfl) (by kernel_rfl)
      ⟨xm rfl rfl rfl rfl rfl, ox_call (Sp.is (.bool true)) [.int .i64 a] rfl rfl trivial ⟨(oy rfl rfl), trivial⟩ (is_on fun W g => isaddr_B ha W) (fun _ _ h => h) (enter_of Try.func53 (by kernel_rfl) rfl), ox_un rfl rfl trivial (oy rfl rfl) (fun _ => rn_not) (fun _ => rfl), xm rfl rfl rfl rfl rfl, ox_load rfl rfl (gy rfl rfl rfl) (oy rfl rfl) (fun _ g => loadsAt (tyVa hsa hpo (.slice ao ks.length cap) rfl) (rangeAt_row (row_of g HB3_2 (by simp)))) (fun _ => rfl), ox_call (Sp.is (.bool true)) [vval sa po (.slice ao ks.length cap)] rfl rfl (gy rfl rfl rfl) ⟨(oy rfl rfl), trivial⟩ (is_on fun W g => vvalid_B hsa hpo (hr.kn g) hv) (fun _ _ h => h) (enter_of Try.func45 (by kernel_rfl) rfl), ox_un rfl rfl (gy rfl rfl rfl) (oy rfl rfl) (fun _ => rn_not) (fun _ => rfl), ox_pick rfl rfl trivial (oy rfl rfl) (oy rfl rfl) (fun _ => rfl), trivial⟩ fun a25 w25 g25 st25 => ?_
    obtain ⟨hn25, hd25, e25_11, e25_12, e25_13, e25_14, e25_15, e25_16, e25_17, e25_18, e25_7, e25_6, e25_4, e25_3, e25_2, -⟩ := st25
    replace HB3_2 := rw_kn g25 HB3_2
    replace HB4_3 := rw_kn g25 HB4_3
    replace HB6_4 := rw_kn g25 HB6_4
    replace HB7_5 := rw_kn g25 HB7_5
    replace hr := hr.kn g25
    replace HG := grown_trans HG g25
    have sv25 : Sv 39 [{ target := .fn (.func 74) #[.pointer (some ⟨B6_4, 0, none⟩), .pointer (some ⟨B7_5, 0, none⟩)], args := #[] }] [(7, .pointer (some ⟨B7_5, 0, none⟩)), (6, .pointer (some ⟨B6_4, 0, none⟩)), (4, .pointer (some ⟨B4_3, 0, none⟩)), (3, .pointer (some ⟨B3_2, 0, none⟩)), (2, .int .i64 a), (18, .bool false)] a25 := ⟨hn25, hd25, e25_7, e25_6, e25_4, e25_3, e25_2, e25_18, trivial⟩
    refine tl_nil ?_
    refine k12 _ _ ?_
    refine cx_ifF sv25 rfl rfl ?_
    refine wp_skip ?_
    refine k11 _ _ ?_
    refine wp_seq_k fun K26 k26 => ?_
    cases hf : fnd (ks.map VK.p) o
    · refine wp_region_lit ?_
      refine sx_head (sv25.st w25) 6 [(21, Sp.is (vval sa po (.slice ao ks.length cap))), (22, Sp.is (dval o)), (23, Sp.is (.tuple #[.int .i64 ((i : Int)), .bool false])), (20, Sp.is (.tuple #[.int .i64 ((i : Int)), .bool false])), (24, Sp.is (.int .i64 ((i : Int)))), (25, Sp.is (.bool false))] rfl (by kernel_rfl) (by kernel_rfl) (by kernel_rfl)
        ⟨xl rfl rfl rfl rfl rfl (tyVa hsa hpo (.slice ao ks.length cap) rfl) HB3_2 rfl, xl rfl rfl rfl rfl rfl (tyD o ho.1) HB4_3 rfl, ox_call (Sp.is (.tuple #[.int .i64 ((i : Int)), .bool false])) [vval sa po (.slice ao ks.length cap), dval o] rfl rfl trivial ⟨(oy rfl rfl), (oy rfl rfl), trivial⟩ (is_on fun W g => find_B hsa hpo ho (hr.kn g) hv hf hi) (fun _ _ h => h) (enter_of Try.func70 (by kernel_rfl) rfl), xm rfl rfl rfl rfl rfl, ox_extract rfl rfl rfl trivial (fun _ _ h => ⟨_, _, h, rfl, rfl⟩), ox_extract rfl rfl rfl trivial (fun _ _ h => ⟨_, _, h, rfl, rfl⟩), trivial⟩ fun a27 w27 g27 st27 => ?_
      obtain ⟨hn27, hd27, e27_21, e27_22, e27_23, e27_20, e27_24, e27_25, e27_7, e27_6, e27_4, e27_3, e27_2, e27_18, -⟩ := st27
      replace HB3_2 := rw_kn g27 HB3_2
      replace HB4_3 := rw_kn g27 HB4_3
      replace HB6_4 := rw_kn g27 HB6_4
      replace HB7_5 := rw_kn g27 HB7_5
      replace hr := hr.kn g27
      replace HG := grown_trans HG g27
      have sv27 : Sv 39 [{ target := .fn (.func 74) #[.pointer (some ⟨B6_4, 0, none⟩), .pointer (some ⟨B7_5, 0, none⟩)], args := #[] }] [(7, .pointer (some ⟨B7_5, 0, none⟩)), (6, .pointer (some ⟨B6_4, 0, none⟩)), (4, .pointer (some ⟨B4_3, 0, none⟩)), (3, .pointer (some ⟨B3_2, 0, none⟩)), (2, .int .i64 a), (18, .bool false), (24, .int .i64 ((i : Int))), (25, .bool false)] a27 := ⟨hn27, hd27, e27_7, e27_6, e27_4, e27_3, e27_2, e27_18, e27_24, e27_25, trivial⟩
      refine tl_assign sv27 rfl (.inl rfl) rfl rfl rfl rfl fun a28 sv28 => ?_
      replace sv28 : Sv 39 [{ target := .fn (.func 74) #[.pointer (some ⟨B6_4, 0, none⟩), .pointer (some ⟨B7_5, 0, none⟩)], args := #[] }] [(8, .int .i64 ((i : Int))), (7, .pointer (some ⟨B7_5, 0, none⟩)), (6, .pointer (some ⟨B6_4, 0, none⟩)), (4, .pointer (some ⟨B4_3, 0, none⟩)), (3, .pointer (some ⟨B3_2, 0, none⟩)), (2, .int .i64 a), (18, .bool false), (24, .int .i64 ((i : Int))), (25, .bool false)] a28 := sv28
      refine tl_assign sv28 rfl (.inl rfl) rfl rfl rfl rfl fun a29 sv29 => ?_
      replace sv29 : Sv 39 [{ target := .fn (.func 74) #[.pointer (some ⟨B6_4, 0, none⟩), .pointer (some ⟨B7_5, 0, none⟩)], args := #[] }] [(9, .bool false), (8, .int .i64 ((i : Int))), (7, .pointer (some ⟨B7_5, 0, none⟩)), (6, .pointer (some ⟨B6_4, 0, none⟩)), (4, .pointer (some ⟨B4_3, 0, none⟩)), (3, .pointer (some ⟨B3_2, 0, none⟩)), (2, .int .i64 a), (18, .bool false), (24, .int .i64 ((i : Int))), (25, .bool false)] a29 := sv29
      have sv30 : Sv 39 [{ target := .fn (.func 74) #[.pointer (some ⟨B6_4, 0, none⟩), .pointer (some ⟨B7_5, 0, none⟩)], args := #[] }] [(9, .bool false), (8, .int .i64 ((i : Int))), (7, .pointer (some ⟨B7_5, 0, none⟩)), (6, .pointer (some ⟨B6_4, 0, none⟩)), (3, .pointer (some ⟨B3_2, 0, none⟩)), (2, .int .i64 a), (18, .bool false)] a29 := ⟨sv29.1, sv29.2.1, sv29.2.2.1, sv29.2.2.2.1, sv29.2.2.2.2.1, sv29.2.2.2.2.2.1, sv29.2.2.2.2.2.2.2.1, sv29.2.2.2.2.2.2.2.2.1, sv29.2.2.2.2.2.2.2.2.2.1, trivial⟩
      refine tl_nil ?_
      refine k26 _ _ ?_
      refine wp_seq_k fun K31 k31 => ?_
      refine wp_seq_k fun K32 k32 => ?_
      refine wp_region_lit ?_
      refine sx_head (sv30.st w27) 2 [(26, Sp.is (.bool false)), (27, Sp.is (.bool true))] rfl (by kernel_rfl) (by kernel_rfl) (by kernel_rfl)
        ⟨xm rfl rfl rfl rfl rfl, ox_un rfl rfl trivial (oy rfl rfl) (fun _ => rn_not) (fun _ => rfl), trivial⟩ fun a33 w33 g33 st33 => ?_
      obtain ⟨hn33, hd33, e33_26, e33_27, e33_9, e33_8, e33_7, e33_6, e33_3, e33_2, e33_18, -⟩ := st33
      replace HB3_2 := rw_kn g33 HB3_2
      replace HB4_3 := rw_kn g33 HB4_3
      replace HB6_4 := rw_kn g33 HB6_4
      replace HB7_5 := rw_kn g33 HB7_5
      replace hr := hr.kn g33
      replace HG := grown_trans HG g33
      have sv33 : Sv 39 [{ target := .fn (.func 74) #[.pointer (some ⟨B6_4, 0, none⟩), .pointer (some ⟨B7_5, 0, none⟩)], args := #[] }] [(9, .bool false), (8, .int .i64 ((i : Int))), (7, .pointer (some ⟨B7_5, 0, none⟩)), (6, .pointer (some ⟨B6_4, 0, none⟩)), (3, .pointer (some ⟨B3_2, 0, none⟩)), (2, .int .i64 a), (18, .bool false), (27, .bool true)] a33 := ⟨hn33, hd33, e33_9, e33_8, e33_7, e33_6, e33_3, e33_2, e33_18, e33_27, trivial⟩
      refine tl_nil ?_
      refine k32 _ _ ?_
      refine cx_ifT sv33 rfl rfl ?_
      refine wp_seq_k fun K34 k34 => ?_
      refine wp_region_lit ?_
      refine sx_head (sv33.st w33) 1 [(28, Sp.is (dval zero32))] rfl (by kernel_rfl) (by kernel_rfl) (by kernel_rfl)
        ⟨ox_build (vs := []) rfl rfl trivial trivial (fun _ => bD0 _) (fun _ => rfl), trivial⟩ fun a35 w35 g35 st35 => ?_
      obtain ⟨hn35, hd35, e35_28, e35_9, e35_8, e35_7, e35_6, e35_3, e35_2, e35_18, e35_27, -⟩ := st35
      replace HB3_2 := rw_kn g35 HB3_2
      replace HB4_3 := rw_kn g35 HB4_3
      replace HB6_4 := rw_kn g35 HB6_4
      replace HB7_5 := rw_kn g35 HB7_5
      replace hr := hr.kn g35
      replace HG := grown_trans HG g35
      have sv35 : Sv 39 [{ target := .fn (.func 74) #[.pointer (some ⟨B6_4, 0, none⟩), .pointer (some ⟨B7_5, 0, none⟩)], args := #[] }] [(9, .bool false), (8, .int .i64 ((i : Int))), (7, .pointer (some ⟨B7_5, 0, none⟩)), (6, .pointer (some ⟨B6_4, 0, none⟩)), (3, .pointer (some ⟨B3_2, 0, none⟩)), (2, .int .i64 a), (18, .bool false), (27, .bool true), (28, dval zero32)] a35 := ⟨hn35, hd35, e35_9, e35_8, e35_7, e35_6, e35_3, e35_2, e35_18, e35_27, e35_28, trivial⟩
      refine tl_storeW sv35 rfl rfl rfl rfl rfl rfl rfl (tyD zero32 zero32_dg.1) HB6_4 (lenD zero32_dg) fun w36 g36 h36 => ?_
      replace HB3_2 := rw_st g36 HB3_2 (Ne.symm ne_B6_4_B3_2)
      replace HB4_3 := rw_st g36 HB4_3 (Ne.symm ne_B6_4_B4_3)
      replace HB7_5 := rw_st g36 HB7_5 ne_B7_5_B6_4
      replace hr := hr.offR g36 (fun k hk e => ap_hr_B6_4 k hk (Option.some.inj e).symm)
      replace HG := grown_newR HG g36 lo_B6_4
      replace HB6_4 := h36
      refine tl_storeW sv35 rfl rfl rfl rfl rfl rfl rfl (tyE 10) HB7_5 rfl fun w37 g37 h37 => ?_
      replace HB3_2 := rw_st g37 HB3_2 (Ne.symm ne_B7_5_B3_2)
      replace HB4_3 := rw_st g37 HB4_3 (Ne.symm ne_B7_5_B4_3)
      replace HB6_4 := rw_st g37 HB6_4 (Ne.symm ne_B7_5_B6_4)
      replace hr := hr.offR g37 (fun k hk e => ap_hr_B7_5 k hk (Option.some.inj e).symm)
      replace HG := grown_newR HG g37 lo_B7_5
      replace HB7_5 := h37
      have sv38 : Sv 39 [{ target := .fn (.func 74) #[.pointer (some ⟨B6_4, 0, none⟩), .pointer (some ⟨B7_5, 0, none⟩)], args := #[] }] [(9, .bool false), (8, .int .i64 ((i : Int))), (7, .pointer (some ⟨B7_5, 0, none⟩)), (6, .pointer (some ⟨B6_4, 0, none⟩)), (3, .pointer (some ⟨B3_2, 0, none⟩)), (2, .int .i64 a), (18, .bool false), (27, .bool true)] a35 := ⟨sv35.1, sv35.2.1, sv35.2.2.1, sv35.2.2.2.1, sv35.2.2.2.2.1, sv35.2.2.2.2.2.1, sv35.2.2.2.2.2.2.1, sv35.2.2.2.2.2.2.2.1, sv35.2.2.2.2.2.2.2.2.1, sv35.2.2.2.2.2.2.2.2.2.1, trivial⟩
      refine tl_nil ?_
      refine k34 _ _ ?_
      refine wp_ret ?_
      repeat refine then_ret ?_
      refine cx_retD (fn := Try.f39) sv38 (res_cell2 (p := 6) (q := 7) Try.results39 sv38 rfl rfl rfl rfl (tyD zero32 zero32_dg.1) (tyE 10) HB6_4 HB7_5) (inv_of Try.func74 (by kernel_rfl) rfl _ _) (recKey_walk _ _ _) ?_
      exact ⟨retK' (keyO_none ha hv hf), HG⟩
    · have hil : i < ks.length := by have := (fnd_at hf).1; rw [hi] at this; simpa using this
      obtain ⟨x, hx_x⟩ : ∃ x, ks[i]'hil = x := ⟨_, rfl⟩
      have htr : tr (ks.map VK.p) i = x.l := by rw [tr_map hil, hx_x]
      refine wp_region_lit ?_
      refine sx_head (sv25.st w25) 6 [(21, Sp.is (vval sa po (.slice ao ks.length cap))), (22, Sp.is (dval o)), (23, Sp.is (.tuple #[.int .i64 ((i : Int)), .bool true])), (20, Sp.is (.tuple #[.int .i64 ((i : Int)), .bool true])), (24, Sp.is (.int .i64 ((i : Int)))), (25, Sp.is (.bool true))] rfl (by kernel_rfl) (by kernel_rfl) (by kernel_rfl)
        ⟨xl rfl rfl rfl rfl rfl (tyVa hsa hpo (.slice ao ks.length cap) rfl) HB3_2 rfl, xl rfl rfl rfl rfl rfl (tyD o ho.1) HB4_3 rfl, ox_call (Sp.is (.tuple #[.int .i64 ((i : Int)), .bool true])) [vval sa po (.slice ao ks.length cap), dval o] rfl rfl trivial ⟨(oy rfl rfl), (oy rfl rfl), trivial⟩ (is_on fun W g => find_B hsa hpo ho (hr.kn g) hv hf hi) (fun _ _ h => h) (enter_of Try.func70 (by kernel_rfl) rfl), xm rfl rfl rfl rfl rfl, ox_extract rfl rfl rfl trivial (fun _ _ h => ⟨_, _, h, rfl, rfl⟩), ox_extract rfl rfl rfl trivial (fun _ _ h => ⟨_, _, h, rfl, rfl⟩), trivial⟩ fun a39 w39 g39 st39 => ?_
      obtain ⟨hn39, hd39, e39_21, e39_22, e39_23, e39_20, e39_24, e39_25, e39_7, e39_6, e39_4, e39_3, e39_2, e39_18, -⟩ := st39
      replace HB3_2 := rw_kn g39 HB3_2
      replace HB4_3 := rw_kn g39 HB4_3
      replace HB6_4 := rw_kn g39 HB6_4
      replace HB7_5 := rw_kn g39 HB7_5
      replace hr := hr.kn g39
      replace HG := grown_trans HG g39
      have sv39 : Sv 39 [{ target := .fn (.func 74) #[.pointer (some ⟨B6_4, 0, none⟩), .pointer (some ⟨B7_5, 0, none⟩)], args := #[] }] [(7, .pointer (some ⟨B7_5, 0, none⟩)), (6, .pointer (some ⟨B6_4, 0, none⟩)), (4, .pointer (some ⟨B4_3, 0, none⟩)), (3, .pointer (some ⟨B3_2, 0, none⟩)), (2, .int .i64 a), (18, .bool false), (24, .int .i64 ((i : Int))), (25, .bool true)] a39 := ⟨hn39, hd39, e39_7, e39_6, e39_4, e39_3, e39_2, e39_18, e39_24, e39_25, trivial⟩
      refine tl_assign sv39 rfl (.inl rfl) rfl rfl rfl rfl fun a40 sv40 => ?_
      replace sv40 : Sv 39 [{ target := .fn (.func 74) #[.pointer (some ⟨B6_4, 0, none⟩), .pointer (some ⟨B7_5, 0, none⟩)], args := #[] }] [(8, .int .i64 ((i : Int))), (7, .pointer (some ⟨B7_5, 0, none⟩)), (6, .pointer (some ⟨B6_4, 0, none⟩)), (4, .pointer (some ⟨B4_3, 0, none⟩)), (3, .pointer (some ⟨B3_2, 0, none⟩)), (2, .int .i64 a), (18, .bool false), (24, .int .i64 ((i : Int))), (25, .bool true)] a40 := sv40
      refine tl_assign sv40 rfl (.inl rfl) rfl rfl rfl rfl fun a41 sv41 => ?_
      replace sv41 : Sv 39 [{ target := .fn (.func 74) #[.pointer (some ⟨B6_4, 0, none⟩), .pointer (some ⟨B7_5, 0, none⟩)], args := #[] }] [(9, .bool true), (8, .int .i64 ((i : Int))), (7, .pointer (some ⟨B7_5, 0, none⟩)), (6, .pointer (some ⟨B6_4, 0, none⟩)), (4, .pointer (some ⟨B4_3, 0, none⟩)), (3, .pointer (some ⟨B3_2, 0, none⟩)), (2, .int .i64 a), (18, .bool false), (24, .int .i64 ((i : Int))), (25, .bool true)] a41 := sv41
      have sv42 : Sv 39 [{ target := .fn (.func 74) #[.pointer (some ⟨B6_4, 0, none⟩), .pointer (some ⟨B7_5, 0, none⟩)], args := #[] }] [(9, .bool true), (8, .int .i64 ((i : Int))), (7, .pointer (some ⟨B7_5, 0, none⟩)), (6, .pointer (some ⟨B6_4, 0, none⟩)), (3, .pointer (some ⟨B3_2, 0, none⟩)), (2, .int .i64 a), (18, .bool false)] a41 := ⟨sv41.1, sv41.2.1, sv41.2.2.1, sv41.2.2.2.1, sv41.2.2.2.2.1, sv41.2.2.2.2.2.1, sv41.2.2.2.2.2.2.2.1, sv41.2.2.2.2.2.2.2.2.1, sv41.2.2.2.2.2.2.2.2.2.1, trivial⟩
      refine tl_nil ?_
      refine k26 _ _ ?_
      refine wp_seq_k fun K43 k43 => ?_
      refine wp_seq_k fun K44 k44 => ?_
      refine wp_region_lit ?_
      refine sx_head (sv42.st w39) 2 [(26, Sp.is (.bool true)), (27, Sp.is (.bool false))] rfl (by kernel_rfl) (by kernel_rfl) (by kernel_rfl)
        ⟨xm rfl rfl rfl rfl rfl, ox_un rfl rfl trivial (oy rfl rfl) (fun _ => rn_not) (fun _ => rfl), trivial⟩ fun a45 w45 g45 st45 => ?_
      obtain ⟨hn45, hd45, e45_26, e45_27, e45_9, e45_8, e45_7, e45_6, e45_3, e45_2, e45_18, -⟩ := st45
      replace HB3_2 := rw_kn g45 HB3_2
      replace HB4_3 := rw_kn g45 HB4_3
      replace HB6_4 := rw_kn g45 HB6_4
      replace HB7_5 := rw_kn g45 HB7_5
      replace hr := hr.kn g45
      replace HG := grown_trans HG g45
      have sv45 : Sv 39 [{ target := .fn (.func 74) #[.pointer (some ⟨B6_4, 0, none⟩), .pointer (some ⟨B7_5, 0, none⟩)], args := #[] }] [(9, .bool true), (8, .int .i64 ((i : Int))), (7, .pointer (some ⟨B7_5, 0, none⟩)), (6, .pointer (some ⟨B6_4, 0, none⟩)), (3, .pointer (some ⟨B3_2, 0, none⟩)), (2, .int .i64 a), (18, .bool false), (27, .bool false)] a45 := ⟨hn45, hd45, e45_9, e45_8, e45_7, e45_6, e45_3, e45_2, e45_18, e45_27, trivial⟩
      refine tl_nil ?_
      refine k44 _ _ ?_
      refine cx_ifF sv45 rfl rfl ?_
      refine wp_skip ?_
      refine k43 _ _ ?_
      refine wp_seq_k fun K46 k46 => ?_
      refine wp_region_lit ?_
      refine sx_head (sv45.st w45) 10 [(29, Sp.is (.pointer (some ⟨B3_2, 64, none⟩))), (30, Sp.is (.slice ao ks.length cap)), (31, Sp.is (.int .i64 ((i : Int)))), (32, Sp.is (.pointer (some ⟨(bO ao), oO ao + i * 33, none⟩))), (33, Sp.is (.pointer (some ⟨(bO ao), oO ao + i * 33 + 32, none⟩))), (34, Sp.is (.agg #[VK.s x])), (35, Sp.is (.int .i64 a)), (36, Sp.is (.tuple #[dval ((leafOf x.l a).1), .int .i64 ((leafOf x.l a).2)])), (37, Sp.is (dval ((leafOf x.l a).1))), (38, Sp.is (.int .i64 ((leafOf x.l a).2)))] rfl (by kernel_rfl) (by kernel_rfl) (by kernel_rfl)
        ⟨xf rfl rfl rfl rfl rfl (fun _ => by kernel_rfl) rfl, xp (i := 2) rfl rfl rfl rfl rfl (tyKs (.slice ao ks.length cap) rfl) HB3_2 rfl (by simp [bv_length, zero32_len, hsa.1, hpo.1]) rfl, xm rfl rfl rfl rfl rfl, ox_index rfl rfl trivial (oy rfl rfl) (oy rfl rfl) (fun w => ix_sl Try.underlying56 (by kernel_rfl) (hr.1.1) (by omega) (rfl) w) (fun _ => rfl), xf rfl rfl rfl rfl rfl (fun _ => by kernel_rfl) rfl, ox_load rfl rfl trivial (oy rfl rfl) (fun _ g => loadsAt (tyT (VK.s x) rfl) (RdK.treeX (hr.kn g) rfl hil hx_x)) (fun _ => rfl), xm rfl rfl rfl rfl rfl, ox_call (Sp.is (.tuple #[dval ((leafOf x.l a).1), .int .i64 ((leafOf x.l a).2)])) [.agg #[VK.s x], .int .i64 a] rfl rfl trivial ⟨(oy rfl rfl), (oy rfl rfl), trivial⟩ (is_on fun W g => leaf_call rfl ((hr.kn g).kt hil hx_x)) (fun _ _ h => h) (enter_of Try.func20 (by kernel_rfl) rfl), ox_extract rfl rfl rfl trivial (fun _ _ h => ⟨_, _, h, rfl, rfl⟩), ox_extract rfl rfl rfl trivial (fun _ _ h => ⟨_, _, h, rfl, rfl⟩), trivial⟩ fun a47 w47 g47 st47 => ?_
      obtain ⟨hn47, hd47, e47_29, e47_30, e47_31, e47_32, e47_33, e47_34, e47_35, e47_36, e47_37, e47_38, e47_9, e47_8, e47_7, e47_6, e47_3, e47_2, e47_18, e47_27, -⟩ := st47
      replace HB3_2 := rw_kn g47 HB3_2
      replace HB4_3 := rw_kn g47 HB4_3
      replace HB6_4 := rw_kn g47 HB6_4
      replace HB7_5 := rw_kn g47 HB7_5
      replace hr := hr.kn g47
      replace HG := grown_trans HG g47
      have sv47 : Sv 39 [{ target := .fn (.func 74) #[.pointer (some ⟨B6_4, 0, none⟩), .pointer (some ⟨B7_5, 0, none⟩)], args := #[] }] [(9, .bool true), (8, .int .i64 ((i : Int))), (7, .pointer (some ⟨B7_5, 0, none⟩)), (6, .pointer (some ⟨B6_4, 0, none⟩)), (3, .pointer (some ⟨B3_2, 0, none⟩)), (2, .int .i64 a), (18, .bool false), (27, .bool false), (37, dval ((leafOf x.l a).1)), (38, .int .i64 ((leafOf x.l a).2))] a47 := ⟨hn47, hd47, e47_9, e47_8, e47_7, e47_6, e47_3, e47_2, e47_18, e47_27, e47_37, e47_38, trivial⟩
      refine tl_storeW sv47 rfl rfl rfl rfl rfl rfl rfl (tyD ((leafOf x.l a).1) (leafOf_dg ((hr.kt hil hx_x).2.1) a).1) HB6_4 (lenD (leafOf_dg ((hr.kt hil hx_x).2.1) a)) fun w48 g48 h48 => ?_
      replace HB3_2 := rw_st g48 HB3_2 (Ne.symm ne_B6_4_B3_2)
      replace HB4_3 := rw_st g48 HB4_3 (Ne.symm ne_B6_4_B4_3)
      replace HB7_5 := rw_st g48 HB7_5 ne_B7_5_B6_4
      replace hr := hr.offR g48 (fun k hk e => ap_hr_B6_4 k hk (Option.some.inj e).symm)
      replace HG := grown_newR HG g48 lo_B6_4
      replace HB6_4 := h48
      refine tl_storeW sv47 rfl rfl rfl rfl rfl rfl rfl (tyE ((leafOf x.l a).2)) HB7_5 rfl fun w49 g49 h49 => ?_
      replace HB3_2 := rw_st g49 HB3_2 (Ne.symm ne_B7_5_B3_2)
      replace HB4_3 := rw_st g49 HB4_3 (Ne.symm ne_B7_5_B4_3)
      replace HB6_4 := rw_st g49 HB6_4 (Ne.symm ne_B7_5_B6_4)
      replace hr := hr.offR g49 (fun k hk e => ap_hr_B7_5 k hk (Option.some.inj e).symm)
      replace HG := grown_newR HG g49 lo_B7_5
      replace HB7_5 := h49
      have sv50 : Sv 39 [{ target := .fn (.func 74) #[.pointer (some ⟨B6_4, 0, none⟩), .pointer (some ⟨B7_5, 0, none⟩)], args := #[] }] [(9, .bool true), (7, .pointer (some ⟨B7_5, 0, none⟩)), (6, .pointer (some ⟨B6_4, 0, none⟩)), (3, .pointer (some ⟨B3_2, 0, none⟩)), (2, .int .i64 a), (18, .bool false), (27, .bool false)] a47 := ⟨sv47.1, sv47.2.1, sv47.2.2.1, sv47.2.2.2.2.1, sv47.2.2.2.2.2.1, sv47.2.2.2.2.2.2.1, sv47.2.2.2.2.2.2.2.1, sv47.2.2.2.2.2.2.2.2.1, sv47.2.2.2.2.2.2.2.2.2.1, trivial⟩
      refine tl_nil ?_
      refine k46 _ _ ?_
      refine wp_ret ?_
      repeat refine then_ret ?_
      refine cx_retD (fn := Try.f39) sv50 (res_cell2 (p := 6) (q := 7) Try.results39 sv50 rfl rfl rfl rfl (tyD ((leafOf x.l a).1) (leafOf_dg ((hr.kt hil hx_x).2.1) a).1) (tyE ((leafOf x.l a).2)) HB6_4 HB7_5) (inv_of Try.func74 (by kernel_rfl) rfl _ _) (recKey_walk _ _ _) ?_
      exact ⟨retK (keyO_leaf ha hv hf hi htr).symm, HG⟩
end Go.Proofs.Yteakoleceoclkaa
