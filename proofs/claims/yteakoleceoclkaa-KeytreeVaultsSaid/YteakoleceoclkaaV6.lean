/- Vaults: NewVault, Key. (printed by gen_v6.py) -/
import Derived.Test.YteakoleceoclkaaV5
import Derived.Test.YteakoleceoclkaaSJ
namespace Go.Proofs.Yteakoleceoclkaa
open Go.RowKit Go.Shelf
set_option linter.unusedSimpArgs false
set_option linter.unusedVariables false
def kd (n : Nat) (k : List Nat) : List Nat := keyed (BitVec.ofNat 64 n) k []
theorem kd_dg (n : Nat) (k : List Nat) : Dg (kd n k) := ⟨dig_len _ _, dig_lt _ _⟩
theorem keyed_c {n : Nat} (hn : n < 1000) {c : Int} (hc : c = (n : Int)) {k : List Nat} (hk : Dg k) (w : World) : Calls Try.prog 67 #[.int .u64 c, dval k, .slice none 0 0] w fun e w' => e = .returned (dval (kd n k)) ∧ w.grownBy w' none := by
 have e : c = wi (BitVec.ofNat 64 n) := by rw [hc, ← u64_wi, IntKind.wrap_u64]; omega
 rw [e]
 exact keyed_walk (BitVec.ofNat 64 n) k [] hk.1 hk.2 (by simp) (by simp) _ w (Sl.nil w 1)
theorem rkeyed_c {n : Nat} (hn : n < 1000) {c : Int} (hc : c = (n : Int)) {k : List Nat} (hk : Dg k) (w : World) : Calls Try.prog 76 #[.int .u64 c, dval k, .slice none 0 0] w fun e w' => e = .returned (dval (kd n k)) ∧ w.grownBy w' none := by
 have e : c = wi (BitVec.ofNat 64 n) := by rw [hc, ← u64_wi, IntKind.wrap_u64]; omega
 rw [e]
 exact rkeyed_walk (BitVec.ofNat 64 n) k [] hk.1 hk.2 (by simp) (by simp) _ w (Sl.nil w 1)
theorem bV0 (w : World) : (Instr.build 58 #[]).run Try.prog w = .ok (vval zero32 zero32 (.slice none 0 0)) w := by kernel_rfl
theorem bV2 {sa po : List Nat} (hs : Dg sa) (hp : Dg po) (w : World) : (Instr.build 58 #[(0, dval sa), (1, dval po)]).run Try.prog w = .ok (vval sa po (.slice none 0 0)) w := by
 obtain ⟨x0, x1, x2, x3, x4, x5, x6, x7, x8, x9, x10, x11, x12, x13, x14, x15, x16, x17, x18, x19, x20, x21, x22, x23, x24, x25, x26, x27, x28, x29, x30, x31, rfl⟩ := list32 _ hs.1
 obtain ⟨y0, y1, y2, y3, y4, y5, y6, y7, y8, y9, y10, y11, y12, y13, y14, y15, y16, y17, y18, y19, y20, y21, y22, y23, y24, y25, y26, y27, y28, y29, y30, y31, rfl⟩ := list32 _ hp.1
 kernel_rfl
theorem bV3 {sa po : List Nat} (hs : Dg sa) (hp : Dg po) (ao : Option Addr) (n cap : Nat) (w : World) : (Instr.build 58 #[(0, dval sa), (1, dval po), (2, .slice ao n cap)]).run Try.prog w = .ok (vval sa po (.slice ao n cap)) w := by
 obtain ⟨x0, x1, x2, x3, x4, x5, x6, x7, x8, x9, x10, x11, x12, x13, x14, x15, x16, x17, x18, x19, x20, x21, x22, x23, x24, x25, x26, x27, x28, x29, x30, x31, rfl⟩ := list32 _ hs.1
 obtain ⟨y0, y1, y2, y3, y4, y5, y6, y7, y8, y9, y10, y11, y12, y13, y14, y15, y16, y17, y18, y19, y20, y21, y22, y23, y24, y25, y26, y27, y28, y29, y30, y31, rfl⟩ := list32 _ hp.1
 kernel_rfl
theorem bK2' {o : List Nat} (ho : Dg o) (ao : Option Addr) (n cap : Nat) (w : World) : (Instr.build 65 #[(0, dval o), (1, .agg #[.slice ao n cap])]).run Try.prog w = .ok (.agg ([bv o, [.slice ao n cap]].flatten).toArray) w := by
 obtain ⟨x0, x1, x2, x3, x4, x5, x6, x7, x8, x9, x10, x11, x12, x13, x14, x15, x16, x17, x18, x19, x20, x21, x22, x23, x24, x25, x26, x27, x28, x29, x30, x31, rfl⟩ := list32 _ ho.1
 kernel_rfl
theorem bK2 {k : VK} (w : World) : (Instr.build 65 #[(0, dval k.o), (1, .agg #[k.s])]).run Try.prog w = .ok (kval k) w := bK2' k.ho k.ao k.l.length k.cap w
theorem bT1s (ao : Option Addr) (n cap : Nat) (w : World) : (Instr.build 34 #[(0, .slice ao n cap)]).run Try.prog w = .ok (.agg #[.slice ao n cap]) w := by kernel_rfl
theorem isaddr_B {a : Int} {b : Bool} (h : isAddr a = b) (w : World) : Calls Try.prog 53 #[.int .i64 a] w fun e w' => e = .returned (.bool b) ∧ w.grownBy w' none := (isAddress_walk a w).mono fun e w' ⟨h1, h2⟩ => ⟨h ▸ h1, h2 ▸ World.grownBy.refl _ _⟩
theorem vvalid_B {w : World} {ks : List VK} {ao : Option Addr} {cap : Nat} {sa po : List Nat} (hsa : Dg sa) (hpo : Dg po) (hr : RdK w (.slice ao ks.length cap) ks) {b : Bool} (hb : vldV (ks.map VK.p) = b) : Calls Try.prog 45 #[vval sa po (.slice ao ks.length cap)] w fun e w' => e = .returned (.bool b) ∧ w.grownBy w' none := hb ▸ vvalid_walk ks ao cap sa po hsa hpo w hr
theorem rvvalid_B {w : World} {ks : List VK} {ao : Option Addr} {cap : Nat} {sa po : List Nat} (hsa : Dg sa) (hpo : Dg po) (hr : RdK w (.slice ao ks.length cap) ks) {b : Bool} (hb : vldV (ks.map VK.p) = b) : Calls Try.prog 46 #[vval sa po (.slice ao ks.length cap)] w fun e w' => e = .returned (.bool b) ∧ w.grownBy w' none := hb ▸ rvvalid_walk ks ao cap sa po hsa hpo w hr
theorem find_B {w : World} {ks : List VK} {ao : Option Addr} {cap : Nat} {sa po o : List Nat} (hsa : Dg sa) (hpo : Dg po) (ho : Dg o) (hr : RdK w (.slice ao ks.length cap) ks) (hv : vldV (ks.map VK.p) = true) {b : Bool} (hb : fnd (ks.map VK.p) o = b) {i : Nat} (hi : pos (ks.map VK.p) o = i) : Calls Try.prog 70 #[vval sa po (.slice ao ks.length cap), dval o] w fun e w' => e = .returned (.tuple #[.int .i64 (i : Int), .bool b]) ∧ w.grownBy w' none :=
 hb ▸ hi ▸ find_walk ks ao cap sa po hsa hpo o ho w hr (Srt.of hv) (by have := (vldV_iff.1 hv).1; simpa using this)
theorem at_B {w : World} {ks : List VK} {ao : Option Addr} {cap : Nat} {sa po o : List Nat} (hsa : Dg sa) (hpo : Dg po) (ho : Dg o) (hr : RdK w (.slice ao ks.length cap) ks) (hv : vldV (ks.map VK.p) = true) {c : Int} (hc : atV (ks.map VK.p) o = c) : Calls Try.prog 75 #[vval sa po (.slice ao ks.length cap), dval o] w fun e w' => e = .returned (.int .i64 c) ∧ w.grownBy w' none :=
 hc ▸ at_walk ks ao cap sa po hsa hpo o ho w hr (Srt.of hv)
theorem at_yes {P : List VP} {o : List Nat} (h : fnd P o = true) {i : Nat} (hi : pos P o = i) : atV P o = (i : Int) := by unfold atV; rw [h, hi]; rfl
theorem at_no {P : List VP} {o : List Nat} (h : fnd P o = false) : atV P o = -1 := by unfold atV; rw [h]; rfl
theorem retK {x y : List Nat × Int} (h : x = y) : Ending.returned (.tuple #[dval x.1, .int .i64 x.2]) = Ending.returned (.tuple #[dval y.1, .int .i64 y.2]) := by rw [h]
theorem retK' {x : List Nat} {c : Int} {y : List Nat × Int} (h : y = (x, c)) : Ending.returned (.tuple #[dval x, .int .i64 c]) = Ending.returned (.tuple #[dval y.1, .int .i64 y.2]) := by rw [h]
theorem keyO_bad {P : List VP} {o : List Nat} {a : Int} (h : isAddr a = false ∨ vldV P = false) : keyO P o a = (zero32, 1) := by
 unfold keyO
 rcases h with h | h <;> simp [h]
theorem keyO_none {P : List VP} {o : List Nat} {a : Int} (h1 : isAddr a = true) (h2 : vldV P = true) (h3 : fnd P o = false) : keyO P o a = (zero32, 10) := by
 unfold keyO
 simp [h1, h2, h3]
theorem keyO_leaf {P : List VP} {o : List Nat} {a : Int} (h1 : isAddr a = true) (h2 : vldV P = true) (h3 : fnd P o = true) {i : Nat} (hi : pos P o = i) {l : List Nd} (hl : tr P i = l) : keyO P o a = leafOf l a := by
 unfold keyO
 simp [h1, h2, h3, hi, hl]
theorem isAddr_no {a : Int} (h : isAddr a = false) : a < 0 ∨ 17179869184 ≤ a := by
 unfold isAddr at h
 simp at h
 omega
theorem isAddr_yes {a : Int} (h : isAddr a = true) : 0 ≤ a ∧ a < 17179869184 := by
 unfold isAddr at h
 simpa using h
set_option maxRecDepth 100000 in
set_option maxHeartbeats 4000000 in
theorem newv_walk (k : List Nat) (hk : Dg k) (w : World) :
   Calls Try.prog 35 #[dval k] w fun e w' => e = .returned (vval (kd 273 k) (kd 274 k) (.slice none 0 0)) ∧ w.grownBy w' none := by
 refine cx_enterD Try.func35 rfl Try.ntmps35 rfl fun a0 sv0 => ?_
 have HG := World.grownBy.refl w none
 replace sv0 : Sv 8 [] [(0, dval k)] a0 := sv0
 refine wp_seq_k fun K1 k1 => ?_
 refine wp_region_lit ?_
 refine tl_box sv0 rfl rfl rfl rfl rfl rfl (tyD k hk.1) fun a2 w2 B1_2 eq_B1_2 g2 z2 HB1_2 sv2 => ?_
 have lo_B1_2 := nb_lo HG eq_B1_2
 replace HG := grown_trans HG g2
 refine tl_alloc (T := 58) (Z := ([bv zero32, bv zero32, [.slice none 0 0]].flatten)) sv2 rfl rfl rfl (fun a w => by kernel_rfl) fun a3 w3 B2_3 eq_B2_3 g3 z3 HB2_3 sv3 => ?_
 have ne_B2_3_B1_2 := nb_ne HB1_2 eq_B2_3
 have lo_B2_3 := nb_lo HG eq_B2_3
 replace HB1_2 := rw_kn g3 HB1_2
 replace HG := grown_trans HG g3
 refine tl_nil ?_
 refine k1 _ _ ?_
 refine wp_seq_k fun K4 k4 => ?_
 refine wp_region_lit ?_
 refine tl_defer sv3 rfl (dd := { target := .fn (.func 66) #[], args := #[] }) rfl (by simp [execOp, resolve, Deferred.ofValue]; try rfl) fun a5 sv5 => ?_
 refine tl_nil ?_
 refine k4 _ _ ?_
 refine wp_seq_k fun K6 k6 => ?_
 refine rx_tail (sv5.st w3) (by kernel_rfl) 5 [(3, Sp.is (dval k)), (4, Sp.is (dval ((kd 273 k)))), (5, Sp.is (dval k)), (6, Sp.is (dval ((kd 274 k)))), (7, Sp.is (vval ((kd 273 k)) ((kd 274 k)) (.slice none 0 0)))] rfl (by kernel_rfl) (by kernel_rfl) (by kernel_rfl) [] (by kernel_rfl)
   ⟨yl r6 (tyD k hk.1) HB1_2, ox_call (Sp.is (dval ((kd 273 k)))) [.int .u64 273, dval k, .slice none 0 0] rfl rfl trivial ⟨rfl, (oy rfl rfl), rfl, trivial⟩ (is_on fun W g => keyed_c (n := 273) (by decide) rfl hk W) (fun _ _ h => h) (enter_of Try.func67 (by kernel_rfl) rfl), yl r6 (tyD k hk.1) HB1_2, ox_call (Sp.is (dval ((kd 274 k)))) [.int .u64 274, dval k, .slice none 0 0] rfl rfl trivial ⟨rfl, (oy rfl rfl), rfl, trivial⟩ (is_on fun W g => keyed_c (n := 274) (by decide) rfl hk W) (fun _ _ h => h) (enter_of Try.func67 (by kernel_rfl) rfl), ox_build (vs := [dval ((kd 273 k)), dval ((kd 274 k))]) rfl rfl trivial ⟨(oy rfl rfl), (oy rfl rfl), trivial⟩ (fun _ => bV2 (kd_dg _ _) (kd_dg _ _) _) (fun _ => rfl), trivial⟩ trivial
   [] (by kernel_rfl) trivial ⟨.inl rfl, .inl rfl, .inl rfl, .inl rfl, .inl rfl, trivial⟩ (by kernel_rfl) fun a7 w7 g7 st7 nd7 => ?_
 obtain ⟨hn7, hd7, e7_3, e7_4, e7_5, e7_6, e7_7, e7_2, e7_1, e7_0, -⟩ := st7
 have sv7 : Sv 8 [{ target := .fn (.func 66) #[], args := #[] }] [(2, _), (1, _), (0, _), (7, _)] a7 := ⟨hn7, hd7, e7_2, e7_1, e7_0, e7_7, trivial⟩
 refine tl_sw sv7 r7 (tyVa (kd_dg _ _) (kd_dg _ _) (.slice none 0 0) rfl) (rw_kn g7 HB2_3) (by first | rfl | simp [kcells, bv_length, zero32_len, (kd_dg _ _).1, (kd_dg _ _).1]) fun w8 g8 h8 => ?_
 replace HB1_2 := rw_s2 g7 g8 HB1_2 (Ne.symm ne_B2_3_B1_2)
 replace HG := grown_newR (grown_trans HG g7) g8 lo_B2_3
 replace HB2_3 := h8
 refine tl_nil ?_
 refine k6 _ _ ?_
 refine wp_ret ?_
 repeat refine then_ret ?_
 refine cx_retD (fn := Try.f35) sv7 (res_cell (p := 2) Try.results35 sv7 rfl rfl (tyVa (kd_dg _ _) (kd_dg _ _) (.slice none 0 0) rfl) HB2_3) (inv_of Try.func66 (by kernel_rfl) rfl _ _) (recNewVault_walk _) ?_
 exact ⟨rfl, HG⟩
set_option maxRecDepth 100000 in
set_option maxHeartbeats 4000000 in
theorem rnewv_walk (k : List Nat) (hk : Dg k) (w : World) :
   Calls Try.prog 49 #[dval k] w fun e w' => e = .returned (vval (kd 273 k) (kd 274 k) (.slice none 0 0)) ∧ w.grownBy w' none := by
 refine cx_enter Try.func49 rfl Try.ntmps49 rfl fun a0 sv0 => ?_
 have HG := World.grownBy.refl w none
 replace sv0 : Sv 8 [] [(0, dval k)] a0 := sv0
 refine wp_seq_k fun K1 k1 => ?_
 refine wp_region_lit ?_
 refine tl_box sv0 rfl rfl rfl rfl rfl rfl (tyD k hk.1) fun a2 w2 B1_2 eq_B1_2 g2 z2 HB1_2 sv2 => ?_
 have lo_B1_2 := nb_lo HG eq_B1_2
 replace HG := grown_trans HG g2
 refine tl_alloc (T := 58) (Z := ([bv zero32, bv zero32, [.slice none 0 0]].flatten)) sv2 rfl rfl rfl (fun a w => by kernel_rfl) fun a3 w3 B2_3 eq_B2_3 g3 z3 HB2_3 sv3 => ?_
 have ne_B2_3_B1_2 := nb_ne HB1_2 eq_B2_3
 have lo_B2_3 := nb_lo HG eq_B2_3
 replace HB1_2 := rw_kn g3 HB1_2
 replace HG := grown_trans HG g3
 refine tl_nil ?_
 refine k1 _ _ ?_
 refine wp_seq_k fun K4 k4 => ?_
 refine rx_tail (sv3.st w3) (by kernel_rfl) 5 [(3, Sp.is (dval k)), (4, Sp.is (dval ((kd 273 k)))), (5, Sp.is (dval k)), (6, Sp.is (dval ((kd 274 k)))), (7, Sp.is (vval ((kd 273 k)) ((kd 274 k)) (.slice none 0 0)))] rfl (by kernel_rfl) (by kernel_rfl) (by kernel_rfl) [] (by kernel_rfl)
   ⟨yl r6 (tyD k hk.1) HB1_2, ox_call (Sp.is (dval ((kd 273 k)))) [.int .u64 273, dval k, .slice none 0 0] rfl rfl trivial ⟨rfl, (oy rfl rfl), rfl, trivial⟩ (is_on fun W g => rkeyed_c (n := 273) (by decide) rfl hk W) (fun _ _ h => h) (enter_of Try.func76 (by kernel_rfl) rfl), yl r6 (tyD k hk.1) HB1_2, ox_call (Sp.is (dval ((kd 274 k)))) [.int .u64 274, dval k, .slice none 0 0] rfl rfl trivial ⟨rfl, (oy rfl rfl), rfl, trivial⟩ (is_on fun W g => rkeyed_c (n := 274) (by decide) rfl hk W) (fun _ _ h => h) (enter_of Try.func76 (by kernel_rfl) rfl), ox_build (vs := [dval ((kd 273 k)), dval ((kd 274 k))]) rfl rfl trivial ⟨(oy rfl rfl), (oy rfl rfl), trivial⟩ (fun _ => bV2 (kd_dg _ _) (kd_dg _ _) _) (fun _ => rfl), trivial⟩ trivial
   [] (by kernel_rfl) trivial ⟨.inl rfl, .inl rfl, .inl rfl, .inl rfl, .inl rfl, trivial⟩ (by kernel_rfl) fun a5 w5 g5 st5 nd5 => ?_
 obtain ⟨hn5, hd5, e5_3, e5_4, e5_5, e5_6, e5_7, e5_2, e5_1, e5_0, -⟩ := st5
 have sv5 : Sv 8 [] [(2, _), (1, _), (0, _), (7, _)] a5 := ⟨hn5, hd5, e5_2, e5_1, e5_0, e5_7, trivial⟩
 refine tl_sw sv5 r7 (tyVa (kd_dg _ _) (kd_dg _ _) (.slice none 0 0) rfl) (rw_kn g5 HB2_3) (by first | rfl | simp [kcells, bv_length, zero32_len, (kd_dg _ _).1, (kd_dg _ _).1]) fun w6 g6 h6 => ?_
 replace HB1_2 := rw_s2 g5 g6 HB1_2 (Ne.symm ne_B2_3_B1_2)
 replace HG := grown_newR (grown_trans HG g5) g6 lo_B2_3
 replace HB2_3 := h6
 refine tl_nil ?_
 refine k4 _ _ ?_
 refine wp_ret ?_
 repeat refine then_ret ?_
 refine cx_ret (fn := Try.f49) sv5 (res_cell (p := 2) Try.results49 sv5 rfl rfl (tyVa (kd_dg _ _) (kd_dg _ _) (.slice none 0 0) rfl) HB2_3) ?_
 exact ⟨rfl, HG⟩
set_option maxRecDepth 100000 in
set_option maxHeartbeats 4000000 in
theorem key_walk (ks : List VK) (ao : Option Addr) (cap : Nat) (sa po : List Nat) (hsa : Dg sa) (hpo : Dg po) (o : List Nat) (ho : Dg o) (a : Int) (w : World) (hr : RdK w (.slice ao ks.length cap) ks) :
   Calls Try.prog 39 #[vval sa po (.slice ao ks.length cap), dval o, .int .i64 a] w fun e w' => e = .returned (.tuple #[dval (keyO (ks.map VK.p) o a).1, .int .i64 (keyO (ks.map VK.p) o a).2]) ∧ w.grownBy w' none := by
 refine cx_enterD Try.func39 rfl Try.ntmps39 rfl fun a0 sv0 => ?_
 have HG := World.grownBy.refl w none
 replace sv0 : Sv 39 [] [(0, vval sa po (.slice ao ks.length cap)), (1, dval o), (2, .int .i64 a)] a0 := sv0
 refine wp_seq_k fun K1 k1 => ?_
 refine wp_region_lit ?_
 refine tl_box sv0 rfl rfl rfl rfl rfl rfl (tyVa hsa hpo (.slice ao ks.length cap) rfl) fun a2 w2 B3_2 eq_B3_2 g2 z2 HB3_2 sv2 => ?_
 have lo_B3_2 := nb_lo HG eq_B3_2
 have ap_hr_B3_2 := nb_ap (hr.lt) eq_B3_2
 replace hr := hr.kn g2
 replace HG := grown_trans HG g2
 refine tl_box sv2 rfl rfl rfl rfl rfl rfl (tyD o ho.1) fun a3 w3 B4_3 eq_B4_3 g3 z3 HB4_3 sv3 => ?_
 have ne_B4_3_B3_2 := nb_ne HB3_2 eq_B4_3
 have lo_B4_3 := nb_lo HG eq_B4_3
 have ap_hr_B4_3 := nb_ap (hr.lt) eq_B4_3
 replace HB3_2 := rw_kn g3 HB3_2
 replace hr := hr.kn g3
 replace HG := grown_trans HG g3
 refine tl_alloc (T := 29) (Z := (bv zero32)) sv3 rfl rfl rfl (fun a w => by kernel_rfl) fun a4 w4 B6_4 eq_B6_4 g4 z4 HB6_4 sv4 => ?_
 have ne_B6_4_B3_2 := nb_ne HB3_2 eq_B6_4
 have ne_B6_4_B4_3 := nb_ne HB4_3 eq_B6_4
 have lo_B6_4 := nb_lo HG eq_B6_4
 have ap_hr_B6_4 := nb_ap (hr.lt) eq_B6_4
 replace HB3_2 := rw_kn g4 HB3_2
 replace HB4_3 := rw_kn g4 HB4_3
 replace hr := hr.kn g4
 replace HG := grown_trans HG g4
 refine tl_alloc (T := 23) (Z := [.int .i64 0]) sv4 rfl rfl rfl (fun a w => by kernel_rfl) fun a5 w5 B7_5 eq_B7_5 g5 z5 HB7_5 sv5 => ?_
 have ne_B7_5_B3_2 := nb_ne HB3_2 eq_B7_5
 have ne_B7_5_B4_3 := nb_ne HB4_3 eq_B7_5
 have ne_B7_5_B6_4 := nb_ne HB6_4 eq_B7_5
 have lo_B7_5 := nb_lo HG eq_B7_5
 have ap_hr_B7_5 := nb_ap (hr.lt) eq_B7_5
 replace HB3_2 := rw_kn g5 HB3_2
 replace HB4_3 := rw_kn g5 HB4_3
 replace HB6_4 := rw_kn g5 HB6_4
 replace hr := hr.kn g5
 replace HG := grown_trans HG g5
 refine tl_nil ?_
 refine k1 _ _ ?_
 refine wp_seq_k fun K6 k6 => ?_
 refine wp_region_lit ?_
 refine tl_makeFunc sv5 rfl rfl rfl rfl rfl rfl fun a7 sv7 => ?_
 refine tl_defer sv7 rfl (dd := { target := .fn (.func 74) #[pt B6_4, pt B7_5], args := #[] }) rfl (by have e1 := sv7.ev (x := .tmp 10) rfl rfl; simp [execOp, resolve, Deferred.ofValue, e1]; try rfl) fun a8 sv8 => ?_
 refine tl_nil ?_
 refine k6 _ _ ?_
 refine wp_seq_k fun K9 k9 => ?_
 refine wp_seq_k fun K10 k10 => ?_
 rcases (show isAddr a = false ∨ (isAddr a = true ∧ vldV (ks.map VK.p) = false) ∨ (isAddr a = true ∧ vldV (ks.map VK.p) = true) by cases isAddr a <;> cases vldV (ks.map VK.p) <;> simp) with ha | ⟨ha, hv⟩ | ⟨ha, hv⟩
 · refine wp_region_lit ?_
   refine sx_hv sv8 8 [(11, .int .i64 a), (12, .bool false), (13, .bool true), (14, .bool true), (15, undef), (16, undef), (17, undef), (18, .bool true)]
     ⟨ym r5, ox_call (Sp.is (.bool false)) [.int .i64 a] rfl rfl trivial ⟨(oy rfl rfl), trivial⟩ (is_on fun W g => isaddr_B ha W) (fun _ _ h => h) (enter_of Try.func53 (by kernel_rfl) rfl), ox_un rfl rfl trivial (oy rfl rfl) (fun _ => rn_not) (fun _ => rfl), ym r5, ox_off (gn rfl rfl rfl) rfl (fun _ => rfl), ox_off (gn rfl rfl rfl) rfl (fun _ => rfl), ox_off (gn rfl rfl rfl) rfl (fun _ => rfl), ox_pick rfl rfl trivial (oy rfl rfl) rfl (fun _ => rfl), trivial⟩ fun a11 w11 g11 sv11 => ?_
   refine tl_nil ?_
   refine k10 _ _ ?_
   refine cx_ifT sv11 rfl rfl ?_
   refine wp_seq_k fun K12 k12 => ?_
   refine wp_region_lit ?_
   replace HB3_2 := rw_kn g11 HB3_2
   replace HB4_3 := rw_kn g11 HB4_3
   replace HB6_4 := rw_kn g11 HB6_4
   replace HB7_5 := rw_kn g11 HB7_5
   replace hr := hr.kn g11
   replace HG := grown_trans HG g11
   refine sx_hv sv11 1 [(19, dval zero32)]
     ⟨ox_build (vs := []) rfl rfl trivial trivial (fun _ => bD0 _) (fun _ => rfl), trivial⟩ fun a13 w13 g13 sv13 => ?_
   refine tl_sw sv13 r7 (tyD zero32 zero32_dg.1) (rw_kn g13 HB6_4) (lenD zero32_dg) fun w14 g14 h14 => ?_
   replace HB3_2 := rw_s2 g13 g14 HB3_2 (Ne.symm ne_B6_4_B3_2)
   replace HB4_3 := rw_s2 g13 g14 HB4_3 (Ne.symm ne_B6_4_B4_3)
   replace HB7_5 := rw_s2 g13 g14 HB7_5 ne_B7_5_B6_4
   replace hr := (hr.kn g13).offR g14 (no_b ap_hr_B6_4)
   replace HG := grown_newR (grown_trans HG g13) g14 lo_B6_4
   replace HB6_4 := h14
   refine tl_sw sv13 r7 (tyE 1) HB7_5 rfl fun w15 g15 h15 => ?_
   replace HB3_2 := rw_st g15 HB3_2 (Ne.symm ne_B7_5_B3_2)
   replace HB4_3 := rw_st g15 HB4_3 (Ne.symm ne_B7_5_B4_3)
   replace HB6_4 := rw_st g15 HB6_4 (Ne.symm ne_B7_5_B6_4)
   replace hr := hr.offR g15 (no_b ap_hr_B7_5)
   replace HG := grown_newR HG g15 lo_B7_5
   replace HB7_5 := h15
   refine tl_nil ?_
   refine k12 _ _ ?_
   refine wp_ret ?_
   repeat refine then_ret ?_
   refine cx_retD (fn := Try.f39) sv13 (res_cell2 (p := 6) (q := 7) Try.results39 sv13 rfl rfl rfl rfl (tyD zero32 zero32_dg.1) (tyE 1) HB6_4 HB7_5) (inv_of Try.func74 (by kernel_rfl) rfl _ _) (recKey_walk _ _ _) ?_
   exact ⟨retK' (keyO_bad (.inl ha)), HG⟩
 · refine wp_region_lit ?_
   refine sx_hv sv8 8 [(11, .int .i64 a), (12, .bool true), (13, .bool false), (14, .bool false), (15, vval sa po (.slice ao ks.length cap)), (16, .bool false), (17, .bool true), (18, .bool true)]
     ⟨ym r5, ox_call (Sp.is (.bool true)) [.int .i64 a] rfl rfl trivial ⟨(oy rfl rfl), trivial⟩ (is_on fun W g => isaddr_B ha W) (fun _ _ h => h) (enter_of Try.func53 (by kernel_rfl) rfl), ox_un rfl rfl trivial (oy rfl rfl) (fun _ => rn_not) (fun _ => rfl), ym r5, ox_load rfl rfl (gy rfl rfl rfl) (oy rfl rfl) (fun _ g => loadsAt (tyVa hsa hpo (.slice ao ks.length cap) rfl) (rangeAt_row (row_of g HB3_2 (by simp)))) (fun _ => rfl), ox_call (Sp.is (.bool false)) [vval sa po (.slice ao ks.length cap)] rfl rfl (gy rfl rfl rfl) ⟨(oy rfl rfl), trivial⟩ (is_on fun W g => vvalid_B hsa hpo (hr.kn g) hv) (fun _ _ h => h) (enter_of Try.func45 (by kernel_rfl) rfl), ox_un rfl rfl (gy rfl rfl rfl) (oy rfl rfl) (fun _ => rn_not) (fun _ => rfl), ox_pick rfl rfl trivial (oy rfl rfl) (oy rfl rfl) (fun _ => rfl), trivial⟩ fun a16 w16 g16 sv16 => ?_
   refine tl_nil ?_
   refine k10 _ _ ?_
   refine cx_ifT sv16 rfl rfl ?_
   refine wp_seq_k fun K17 k17 => ?_
   refine wp_region_lit ?_
   replace HB3_2 := rw_kn g16 HB3_2
   replace HB4_3 := rw_kn g16 HB4_3
   replace HB6_4 := rw_kn g16 HB6_4
   replace HB7_5 := rw_kn g16 HB7_5
   replace hr := hr.kn g16
   replace HG := grown_trans HG g16
   refine sx_hv sv16 1 [(19, dval zero32)]
     ⟨ox_build (vs := []) rfl rfl trivial trivial (fun _ => bD0 _) (fun _ => rfl), trivial⟩ fun a18 w18 g18 sv18 => ?_
   refine tl_sw sv18 r7 (tyD zero32 zero32_dg.1) (rw_kn g18 HB6_4) (lenD zero32_dg) fun w19 g19 h19 => ?_
   replace HB3_2 := rw_s2 g18 g19 HB3_2 (Ne.symm ne_B6_4_B3_2)
   replace HB4_3 := rw_s2 g18 g19 HB4_3 (Ne.symm ne_B6_4_B4_3)
   replace HB7_5 := rw_s2 g18 g19 HB7_5 ne_B7_5_B6_4
   replace hr := (hr.kn g18).offR g19 (no_b ap_hr_B6_4)
   replace HG := grown_newR (grown_trans HG g18) g19 lo_B6_4
   replace HB6_4 := h19
   refine tl_sw sv18 r7 (tyE 1) HB7_5 rfl fun w20 g20 h20 => ?_
   replace HB3_2 := rw_st g20 HB3_2 (Ne.symm ne_B7_5_B3_2)
   replace HB4_3 := rw_st g20 HB4_3 (Ne.symm ne_B7_5_B4_3)
   replace HB6_4 := rw_st g20 HB6_4 (Ne.symm ne_B7_5_B6_4)
   replace hr := hr.offR g20 (no_b ap_hr_B7_5)
   replace HG := grown_newR HG g20 lo_B7_5
   replace HB7_5 := h20
   refine tl_nil ?_
   refine k17 _ _ ?_
   refine wp_ret ?_
   repeat refine then_ret ?_
   refine cx_retD (fn := Try.f39) sv18 (res_cell2 (p := 6) (q := 7) Try.results39 sv18 rfl rfl rfl rfl (tyD zero32 zero32_dg.1) (tyE 1) HB6_4 HB7_5) (inv_of Try.func74 (by kernel_rfl) rfl _ _) (recKey_walk _ _ _) ?_
   exact ⟨retK' (keyO_bad (.inr hv)), HG⟩
 · obtain ⟨i, hi⟩ : ∃ i, pos (ks.map VK.p) o = i := ⟨_, rfl⟩
   have h64 : ks.length ≤ 64 := by have := (vldV_iff.1 hv).1; simpa using this
   refine wp_region_lit ?_
   refine sx_hv sv8 8 [(11, .int .i64 a), (12, .bool true), (13, .bool false), (14, .bool false), (15, vval sa po (.slice ao ks.length cap)), (16, .bool true), (17, .bool false), (18, .bool false)]
     ⟨ym r5, ox_call (Sp.is (.bool true)) [.int .i64 a] rfl rfl trivial ⟨(oy rfl rfl), trivial⟩ (is_on fun W g => isaddr_B ha W) (fun _ _ h => h) (enter_of Try.func53 (by kernel_rfl) rfl), ox_un rfl rfl trivial (oy rfl rfl) (fun _ => rn_not) (fun _ => rfl), ym r5, ox_load rfl rfl (gy rfl rfl rfl) (oy rfl rfl) (fun _ g => loadsAt (tyVa hsa hpo (.slice ao ks.length cap) rfl) (rangeAt_row (row_of g HB3_2 (by simp)))) (fun _ => rfl), ox_call (Sp.is (.bool true)) [vval sa po (.slice ao ks.length cap)] rfl rfl (gy rfl rfl rfl) ⟨(oy rfl rfl), trivial⟩ (is_on fun W g => vvalid_B hsa hpo (hr.kn g) hv) (fun _ _ h => h) (enter_of Try.func45 (by kernel_rfl) rfl), ox_un rfl rfl (gy rfl rfl rfl) (oy rfl rfl) (fun _ => rn_not) (fun _ => rfl), ox_pick rfl rfl trivial (oy rfl rfl) (oy rfl rfl) (fun _ => rfl), trivial⟩ fun a21 w21 g21 sv21 => ?_
   refine tl_nil ?_
   refine k10 _ _ ?_
   refine cx_ifF sv21 rfl rfl ?_
   refine wp_skip ?_
   refine k9 _ _ ?_
   refine wp_seq_k fun K22 k22 => ?_
   replace HB3_2 := rw_kn g21 HB3_2
   replace HB4_3 := rw_kn g21 HB4_3
   replace HB6_4 := rw_kn g21 HB6_4
   replace HB7_5 := rw_kn g21 HB7_5
   replace hr := hr.kn g21
   replace HG := grown_trans HG g21
   cases hf : fnd (ks.map VK.p) o
   · refine wp_region_lit ?_
     refine sx_hv sv21 6 [(21, vval sa po (.slice ao ks.length cap)), (22, dval o), (23, .tuple #[.int .i64 ((i : Int)), .bool false]), (20, .tuple #[.int .i64 ((i : Int)), .bool false]), (24, .int .i64 ((i : Int))), (25, .bool false)]
       ⟨yl r6 (tyVa hsa hpo (.slice ao ks.length cap) rfl) HB3_2, yl r6 (tyD o ho.1) HB4_3, ox_call (Sp.is (.tuple #[.int .i64 ((i : Int)), .bool false])) [vval sa po (.slice ao ks.length cap), dval o] rfl rfl trivial ⟨(oy rfl rfl), (oy rfl rfl), trivial⟩ (is_on fun W g => find_B hsa hpo ho (hr.kn g) hv hf hi) (fun _ _ h => h) (enter_of Try.func70 (by kernel_rfl) rfl), ym r5, ox_extract rfl rfl rfl trivial (fun _ _ h => ⟨_, _, h, rfl, rfl⟩), ox_extract rfl rfl rfl trivial (fun _ _ h => ⟨_, _, h, rfl, rfl⟩), trivial⟩ fun a23 w23 g23 sv23 => ?_
     refine tl_as (v := .int .i64 ((i : Int))) sv23 r6 fun a24 sv24 => ?_
     refine tl_as (v := .bool false) sv24 r6 fun a25 sv25 => ?_
     have sv26 : Sv 39 [{ target := .fn (.func 74) #[pt B6_4, pt B7_5], args := #[] }] [(9, _), (8, _), (11, _), (12, _), (13, _), (14, _), (15, _), (16, _), (17, _), (18, _), (10, _), (7, _), (6, _), (3, _), (0, _), (1, _), (2, _)] a25 := sv25.dl [21, 22, 23, 20, 24, 25, 4]
     refine tl_nil ?_
     refine k22 _ _ ?_
     refine wp_seq_k fun K27 k27 => ?_
     refine wp_seq_k fun K28 k28 => ?_
     refine wp_region_lit ?_
     refine sx_hv sv26 2 [(26, .bool false), (27, .bool true)]
       ⟨ym r5, ox_un rfl rfl trivial (oy rfl rfl) (fun _ => rn_not) (fun _ => rfl), trivial⟩ fun a29 w29 g29 sv29 => ?_
     have gc29 := grown_trans g23 g29
     refine tl_nil ?_
     refine k28 _ _ ?_
     refine cx_ifT sv29 rfl rfl ?_
     refine wp_seq_k fun K30 k30 => ?_
     refine wp_region_lit ?_
     replace HB3_2 := rw_kn gc29 HB3_2
     replace HB4_3 := rw_kn gc29 HB4_3
     replace HB6_4 := rw_kn gc29 HB6_4
     replace HB7_5 := rw_kn gc29 HB7_5
     replace hr := hr.kn gc29
     replace HG := grown_trans HG gc29
     refine sx_hv sv29 1 [(28, dval zero32)]
       ⟨ox_build (vs := []) rfl rfl trivial trivial (fun _ => bD0 _) (fun _ => rfl), trivial⟩ fun a31 w31 g31 sv31 => ?_
     refine tl_sw sv31 r7 (tyD zero32 zero32_dg.1) (rw_kn g31 HB6_4) (lenD zero32_dg) fun w32 g32 h32 => ?_
     replace HB3_2 := rw_s2 g31 g32 HB3_2 (Ne.symm ne_B6_4_B3_2)
     replace HB4_3 := rw_s2 g31 g32 HB4_3 (Ne.symm ne_B6_4_B4_3)
     replace HB7_5 := rw_s2 g31 g32 HB7_5 ne_B7_5_B6_4
     replace hr := (hr.kn g31).offR g32 (no_b ap_hr_B6_4)
     replace HG := grown_newR (grown_trans HG g31) g32 lo_B6_4
     replace HB6_4 := h32
     refine tl_sw sv31 r7 (tyE 10) HB7_5 rfl fun w33 g33 h33 => ?_
     replace HB3_2 := rw_st g33 HB3_2 (Ne.symm ne_B7_5_B3_2)
     replace HB4_3 := rw_st g33 HB4_3 (Ne.symm ne_B7_5_B4_3)
     replace HB6_4 := rw_st g33 HB6_4 (Ne.symm ne_B7_5_B6_4)
     replace hr := hr.offR g33 (no_b ap_hr_B7_5)
     replace HG := grown_newR HG g33 lo_B7_5
     replace HB7_5 := h33
     refine tl_nil ?_
     refine k30 _ _ ?_
     refine wp_ret ?_
     repeat refine then_ret ?_
     refine cx_retD (fn := Try.f39) sv31 (res_cell2 (p := 6) (q := 7) Try.results39 sv31 rfl rfl rfl rfl (tyD zero32 zero32_dg.1) (tyE 10) HB6_4 HB7_5) (inv_of Try.func74 (by kernel_rfl) rfl _ _) (recKey_walk _ _ _) ?_
     exact ⟨retK' (keyO_none ha hv hf), HG⟩
   · have hil : i < ks.length := by have := (fnd_at hf).1; rw [hi] at this; simpa using this
     obtain ⟨x, hx_x⟩ : ∃ x, ks[i]'hil = x := ⟨_, rfl⟩
     have htr : tr (ks.map VK.p) i = x.l := by rw [tr_map hil, hx_x]
     refine wp_region_lit ?_
     refine sx_hv sv21 6 [(21, vval sa po (.slice ao ks.length cap)), (22, dval o), (23, .tuple #[.int .i64 ((i : Int)), .bool true]), (20, .tuple #[.int .i64 ((i : Int)), .bool true]), (24, .int .i64 ((i : Int))), (25, .bool true)]
       ⟨yl r6 (tyVa hsa hpo (.slice ao ks.length cap) rfl) HB3_2, yl r6 (tyD o ho.1) HB4_3, ox_call (Sp.is (.tuple #[.int .i64 ((i : Int)), .bool true])) [vval sa po (.slice ao ks.length cap), dval o] rfl rfl trivial ⟨(oy rfl rfl), (oy rfl rfl), trivial⟩ (is_on fun W g => find_B hsa hpo ho (hr.kn g) hv hf hi) (fun _ _ h => h) (enter_of Try.func70 (by kernel_rfl) rfl), ym r5, ox_extract rfl rfl rfl trivial (fun _ _ h => ⟨_, _, h, rfl, rfl⟩), ox_extract rfl rfl rfl trivial (fun _ _ h => ⟨_, _, h, rfl, rfl⟩), trivial⟩ fun a34 w34 g34 sv34 => ?_
     refine tl_as (v := .int .i64 ((i : Int))) sv34 r6 fun a35 sv35 => ?_
     refine tl_as (v := .bool true) sv35 r6 fun a36 sv36 => ?_
     have sv37 : Sv 39 [{ target := .fn (.func 74) #[pt B6_4, pt B7_5], args := #[] }] [(9, _), (8, _), (11, _), (12, _), (13, _), (14, _), (15, _), (16, _), (17, _), (18, _), (10, _), (7, _), (6, _), (3, _), (0, _), (1, _), (2, _)] a36 := sv36.dl [21, 22, 23, 20, 24, 25, 4]
     refine tl_nil ?_
     refine k22 _ _ ?_
     refine wp_seq_k fun K38 k38 => ?_
     refine wp_seq_k fun K39 k39 => ?_
     refine wp_region_lit ?_
     refine sx_hv sv37 2 [(26, .bool true), (27, .bool false)]
       ⟨ym r5, ox_un rfl rfl trivial (oy rfl rfl) (fun _ => rn_not) (fun _ => rfl), trivial⟩ fun a40 w40 g40 sv40 => ?_
     have gc40 := grown_trans g34 g40
     refine tl_nil ?_
     refine k39 _ _ ?_
     refine cx_ifF sv40 rfl rfl ?_
     refine wp_skip ?_
     refine k38 _ _ ?_
     refine wp_seq_k fun K41 k41 => ?_
     refine wp_region_lit ?_
     replace HB3_2 := rw_kn gc40 HB3_2
     replace HB4_3 := rw_kn gc40 HB4_3
     replace HB6_4 := rw_kn gc40 HB6_4
     replace HB7_5 := rw_kn gc40 HB7_5
     replace hr := hr.kn gc40
     replace HG := grown_trans HG gc40
     refine sx_hv sv40 10 [(29, pk B3_2 64), (30, .slice ao ks.length cap), (31, .int .i64 ((i : Int))), (32, pk ((bO ao)) (oO ao + i * 33)), (33, pk ((bO ao)) (oO ao + i * 33 + 32)), (34, .agg #[VK.s x]), (35, .int .i64 a), (36, .tuple #[dval ((leafOf x.l a).1), .int .i64 ((leafOf x.l a).2)]), (37, dval ((leafOf x.l a).1)), (38, .int .i64 ((leafOf x.l a).2))]
       ⟨yf r6 (fun _ => by kernel_rfl), yp (i := 2) r6 (tyKs (.slice ao ks.length cap) rfl) HB3_2 rfl (by simp [bv_length, zero32_len, hsa.1, hpo.1]), ym r5, ox_index rfl rfl trivial (oy rfl rfl) (oy rfl rfl) (fun w => ix_sl Try.underlying56 (by kernel_rfl) (hr.1.1) (by omega) (rfl) w) (fun _ => rfl), yf r6 (fun _ => by kernel_rfl), ox_load rfl rfl trivial (oy rfl rfl) (fun _ g => loadsAt (tyT (VK.s x) rfl) (RdK.treeX (hr.kn g) rfl hil hx_x)) (fun _ => rfl), ym r5, ox_call (Sp.is (.tuple #[dval ((leafOf x.l a).1), .int .i64 ((leafOf x.l a).2)])) [.agg #[VK.s x], .int .i64 a] rfl rfl trivial ⟨(oy rfl rfl), (oy rfl rfl), trivial⟩ (is_on fun W g => leaf_call rfl ((hr.kn g).kt hil hx_x)) (fun _ _ h => h) (enter_of Try.func20 (by kernel_rfl) rfl), ox_extract rfl rfl rfl trivial (fun _ _ h => ⟨_, _, h, rfl, rfl⟩), ox_extract rfl rfl rfl trivial (fun _ _ h => ⟨_, _, h, rfl, rfl⟩), trivial⟩ fun a42 w42 g42 sv42 => ?_
     refine tl_sw sv42 r7 (tyD ((leafOf x.l a).1) (leafOf_dg ((hr.kt hil hx_x).2.1) a).1) (rw_kn g42 HB6_4) (lenD (leafOf_dg ((hr.kt hil hx_x).2.1) a)) fun w43 g43 h43 => ?_
     replace HB3_2 := rw_s2 g42 g43 HB3_2 (Ne.symm ne_B6_4_B3_2)
     replace HB4_3 := rw_s2 g42 g43 HB4_3 (Ne.symm ne_B6_4_B4_3)
     replace HB7_5 := rw_s2 g42 g43 HB7_5 ne_B7_5_B6_4
     replace hr := (hr.kn g42).offR g43 (no_b ap_hr_B6_4)
     replace HG := grown_newR (grown_trans HG g42) g43 lo_B6_4
     replace HB6_4 := h43
     refine tl_sw sv42 r7 (tyE ((leafOf x.l a).2)) HB7_5 rfl fun w44 g44 h44 => ?_
     replace HB3_2 := rw_st g44 HB3_2 (Ne.symm ne_B7_5_B3_2)
     replace HB4_3 := rw_st g44 HB4_3 (Ne.symm ne_B7_5_B4_3)
     replace HB6_4 := rw_st g44 HB6_4 (Ne.symm ne_B7_5_B6_4)
     replace hr := hr.offR g44 (no_b ap_hr_B7_5)
     replace HG := grown_newR HG g44 lo_B7_5
     replace HB7_5 := h44
     have sv45 : Sv 39 [{ target := .fn (.func 74) #[pt B6_4, pt B7_5], args := #[] }] [(26, _), (27, _), (9, _), (11, _), (12, _), (13, _), (14, _), (15, _), (16, _), (17, _), (18, _), (10, _), (7, _), (6, _), (3, _), (0, _), (1, _), (2, _)] a42 := sv42.dl [29, 30, 31, 32, 33, 34, 35, 36, 37, 38, 8]
     refine tl_nil ?_
     refine k41 _ _ ?_
     refine wp_ret ?_
     repeat refine then_ret ?_
     refine cx_retD (fn := Try.f39) sv45 (res_cell2 (p := 6) (q := 7) Try.results39 sv45 rfl rfl rfl rfl (tyD ((leafOf x.l a).1) (leafOf_dg ((hr.kt hil hx_x).2.1) a).1) (tyE ((leafOf x.l a).2)) HB6_4 HB7_5) (inv_of Try.func74 (by kernel_rfl) rfl _ _) (recKey_walk _ _ _) ?_
     exact ⟨retK (keyO_leaf ha hv hf hi htr).symm, HG⟩
set_option maxRecDepth 100000 in
set_option maxHeartbeats 4000000 in
theorem rkey_walk (ks : List VK) (ao : Option Addr) (cap : Nat) (sa po : List Nat) (hsa : Dg sa) (hpo : Dg po) (o : List Nat) (ho : Dg o) (a : Int) (w : World) (hr : RdK w (.slice ao ks.length cap) ks) :
   Calls Try.prog 40 #[vval sa po (.slice ao ks.length cap), dval o, .int .i64 a] w fun e w' => e = .returned (.tuple #[dval (keyO (ks.map VK.p) o a).1, .int .i64 (keyO (ks.map VK.p) o a).2]) ∧ w.grownBy w' none := by
 refine cx_enter Try.func40 rfl Try.ntmps40 rfl fun a0 sv0 => ?_
 have HG := World.grownBy.refl w none
 replace sv0 : Sv 37 [] [(0, vval sa po (.slice ao ks.length cap)), (1, dval o), (2, .int .i64 a)] a0 := sv0
 refine wp_seq_k fun K1 k1 => ?_
 refine wp_region_lit ?_
 refine tl_box sv0 rfl rfl rfl rfl rfl rfl (tyVa hsa hpo (.slice ao ks.length cap) rfl) fun a2 w2 B3_2 eq_B3_2 g2 z2 HB3_2 sv2 => ?_
 have lo_B3_2 := nb_lo HG eq_B3_2
 have ap_hr_B3_2 := nb_ap (hr.lt) eq_B3_2
 replace hr := hr.kn g2
 replace HG := grown_trans HG g2
 refine tl_box sv2 rfl rfl rfl rfl rfl rfl (tyD o ho.1) fun a3 w3 B4_3 eq_B4_3 g3 z3 HB4_3 sv3 => ?_
 have ne_B4_3_B3_2 := nb_ne HB3_2 eq_B4_3
 have lo_B4_3 := nb_lo HG eq_B4_3
 have ap_hr_B4_3 := nb_ap (hr.lt) eq_B4_3
 replace HB3_2 := rw_kn g3 HB3_2
 replace hr := hr.kn g3
 replace HG := grown_trans HG g3
 refine tl_alloc (T := 29) (Z := (bv zero32)) sv3 rfl rfl rfl (fun a w => by kernel_rfl) fun a4 w4 B6_4 eq_B6_4 g4 z4 HB6_4 sv4 => ?_
 have ne_B6_4_B3_2 := nb_ne HB3_2 eq_B6_4
 have ne_B6_4_B4_3 := nb_ne HB4_3 eq_B6_4
 have lo_B6_4 := nb_lo HG eq_B6_4
 have ap_hr_B6_4 := nb_ap (hr.lt) eq_B6_4
 replace HB3_2 := rw_kn g4 HB3_2
 replace HB4_3 := rw_kn g4 HB4_3
 replace hr := hr.kn g4
 replace HG := grown_trans HG g4
 refine tl_as (v := .int .i64 0) sv4 r6 fun a5 sv5 => ?_
 refine tl_nil ?_
 refine k1 _ _ ?_
 refine wp_seq_k fun K6 k6 => ?_
 refine wp_seq_k fun K7 k7 => ?_
 rcases (show vldV (ks.map VK.p) = false ∨ (vldV (ks.map VK.p) = true ∧ a < 0) ∨ (vldV (ks.map VK.p) = true ∧ 17179869184 ≤ a) ∨ (vldV (ks.map VK.p) = true ∧ isAddr a = true) by
     cases vldV (ks.map VK.p) <;> cases h : isAddr a <;> simp <;> exact isAddr_no h) with hv | ⟨hv, ha⟩ | ⟨hv, ha⟩ | ⟨hv, ha⟩
 · refine wp_region_lit ?_
   refine sx_hv sv5 11 [(9, vval sa po (.slice ao ks.length cap)), (10, .bool false), (11, .bool true), (12, .bool true), (13, undef), (14, undef), (15, .bool true), (16, .bool true), (17, undef), (18, undef), (19, .bool true)]
     ⟨yl r6 (tyVa hsa hpo (.slice ao ks.length cap) rfl) HB3_2, ox_call (Sp.is (.bool false)) [vval sa po (.slice ao ks.length cap)] rfl rfl trivial ⟨(oy rfl rfl), trivial⟩ (is_on fun W g => rvvalid_B hsa hpo (hr.kn g) hv) (fun _ _ h => h) (enter_of Try.func46 (by kernel_rfl) rfl), ox_un rfl rfl trivial (oy rfl rfl) (fun _ => rn_not) (fun _ => rfl), ym r5, ox_off (gn rfl rfl rfl) rfl (fun _ => rfl), ox_off (gn rfl rfl rfl) rfl (fun _ => rfl), ox_pick rfl rfl trivial (oy rfl rfl) rfl (fun _ => rfl), ym r5, ox_off (gn rfl rfl rfl) rfl (fun _ => rfl), ox_off (gn rfl rfl rfl) rfl (fun _ => rfl), ox_pick rfl rfl trivial (oy rfl rfl) rfl (fun _ => rfl), trivial⟩ fun a8 w8 g8 sv8 => ?_
   refine tl_nil ?_
   refine k7 _ _ ?_
   refine cx_ifT sv8 rfl rfl ?_
   refine wp_seq_k fun K9 k9 => ?_
   refine wp_region_lit ?_
   replace HB3_2 := rw_kn g8 HB3_2
   replace HB4_3 := rw_kn g8 HB4_3
   replace HB6_4 := rw_kn g8 HB6_4
   replace hr := hr.kn g8
   replace HG := grown_trans HG g8
   refine sx_hv sv8 1 [(20, dval zero32)]
     ⟨ox_build (vs := []) rfl rfl trivial trivial (fun _ => bD0 _) (fun _ => rfl), trivial⟩ fun a10 w10 g10 sv10 => ?_
   refine tl_sw sv10 r7 (tyD zero32 zero32_dg.1) (rw_kn g10 HB6_4) (lenD zero32_dg) fun w11 g11 h11 => ?_
   replace HB3_2 := rw_s2 g10 g11 HB3_2 (Ne.symm ne_B6_4_B3_2)
   replace HB4_3 := rw_s2 g10 g11 HB4_3 (Ne.symm ne_B6_4_B4_3)
   replace hr := (hr.kn g10).offR g11 (no_b ap_hr_B6_4)
   replace HG := grown_newR (grown_trans HG g10) g11 lo_B6_4
   replace HB6_4 := h11
   refine tl_as (v := .int .i64 1) sv10 r6 fun a12 sv12 => ?_
   refine tl_nil ?_
   refine k9 _ _ ?_
   refine wp_ret ?_
   repeat refine then_ret ?_
   refine cx_ret (fn := Try.f40) sv12 (res_ct (p := 6) (q := 7) Try.results40 sv12 rfl rfl rfl rfl (tyD zero32 zero32_dg.1) HB6_4) ?_
   exact ⟨retK' (keyO_bad (.inr hv)), HG⟩
 · refine wp_region_lit ?_
   refine sx_hv sv5 11 [(9, vval sa po (.slice ao ks.length cap)), (10, .bool true), (11, .bool false), (12, .bool false), (13, .int .i64 a), (14, .bool true), (15, .bool true), (16, .bool true), (17, undef), (18, undef), (19, .bool true)]
     ⟨yl r6 (tyVa hsa hpo (.slice ao ks.length cap) rfl) HB3_2, ox_call (Sp.is (.bool true)) [vval sa po (.slice ao ks.length cap)] rfl rfl trivial ⟨(oy rfl rfl), trivial⟩ (is_on fun W g => rvvalid_B hsa hpo (hr.kn g) hv) (fun _ _ h => h) (enter_of Try.func46 (by kernel_rfl) rfl), ox_un rfl rfl trivial (oy rfl rfl) (fun _ => rn_not) (fun _ => rfl), ym r5, ox_move 2 13 (.inl rfl) rfl rfl (gy rfl rfl rfl) (fun _ _ h => h), ox_bin rfl rfl (gy rfl rfl rfl) (oy rfl rfl) rfl (fun _ => rn_lss (decide_eq_true (by omega))) (fun _ => rfl), ox_pick rfl rfl trivial (oy rfl rfl) (oy rfl rfl) (fun _ => rfl), ym r5, ox_off (gn rfl rfl rfl) rfl (fun _ => rfl), ox_off (gn rfl rfl rfl) rfl (fun _ => rfl), ox_pick rfl rfl trivial (oy rfl rfl) rfl (fun _ => rfl), trivial⟩ fun a13 w13 g13 sv13 => ?_
   refine tl_nil ?_
   refine k7 _ _ ?_
   refine cx_ifT sv13 rfl rfl ?_
   refine wp_seq_k fun K14 k14 => ?_
   refine wp_region_lit ?_
   replace HB3_2 := rw_kn g13 HB3_2
   replace HB4_3 := rw_kn g13 HB4_3
   replace HB6_4 := rw_kn g13 HB6_4
   replace hr := hr.kn g13
   replace HG := grown_trans HG g13
   refine sx_hv sv13 1 [(20, dval zero32)]
     ⟨ox_build (vs := []) rfl rfl trivial trivial (fun _ => bD0 _) (fun _ => rfl), trivial⟩ fun a15 w15 g15 sv15 => ?_
   refine tl_sw sv15 r7 (tyD zero32 zero32_dg.1) (rw_kn g15 HB6_4) (lenD zero32_dg) fun w16 g16 h16 => ?_
   replace HB3_2 := rw_s2 g15 g16 HB3_2 (Ne.symm ne_B6_4_B3_2)
   replace HB4_3 := rw_s2 g15 g16 HB4_3 (Ne.symm ne_B6_4_B4_3)
   replace hr := (hr.kn g15).offR g16 (no_b ap_hr_B6_4)
   replace HG := grown_newR (grown_trans HG g15) g16 lo_B6_4
   replace HB6_4 := h16
   refine tl_as (v := .int .i64 1) sv15 r6 fun a17 sv17 => ?_
   refine tl_nil ?_
   refine k14 _ _ ?_
   refine wp_ret ?_
   repeat refine then_ret ?_
   refine cx_ret (fn := Try.f40) sv17 (res_ct (p := 6) (q := 7) Try.results40 sv17 rfl rfl rfl rfl (tyD zero32 zero32_dg.1) HB6_4) ?_
   exact ⟨retK' (keyO_bad (.inl (by unfold isAddr; simp; omega))), HG⟩
 · refine wp_region_lit ?_
   refine sx_hv sv5 11 [(9, vval sa po (.slice ao ks.length cap)), (10, .bool true), (11, .bool false), (12, .bool false), (13, .int .i64 a), (14, .bool false), (15, .bool false), (16, .bool false), (17, .int .i64 a), (18, .bool true), (19, .bool true)]
     ⟨yl r6 (tyVa hsa hpo (.slice ao ks.length cap) rfl) HB3_2, ox_call (Sp.is (.bool true)) [vval sa po (.slice ao ks.length cap)] rfl rfl trivial ⟨(oy rfl rfl), trivial⟩ (is_on fun W g => rvvalid_B hsa hpo (hr.kn g) hv) (fun _ _ h => h) (enter_of Try.func46 (by kernel_rfl) rfl), ox_un rfl rfl trivial (oy rfl rfl) (fun _ => rn_not) (fun _ => rfl), ym r5, ox_move 2 13 (.inl rfl) rfl rfl (gy rfl rfl rfl) (fun _ _ h => h), ox_bin rfl rfl (gy rfl rfl rfl) (oy rfl rfl) rfl (fun _ => rn_lss (decide_eq_false (by omega))) (fun _ => rfl), ox_pick rfl rfl trivial (oy rfl rfl) (oy rfl rfl) (fun _ => rfl), ym r5, ox_move 2 17 (.inl rfl) rfl rfl (gy rfl rfl rfl) (fun _ _ h => h), ox_bin rfl rfl (gy rfl rfl rfl) (oy rfl rfl) rfl (fun _ => rn_geq (decide_eq_true (by omega))) (fun _ => rfl), ox_pick rfl rfl trivial (oy rfl rfl) (oy rfl rfl) (fun _ => rfl), trivial⟩ fun a18 w18 g18 sv18 => ?_
   refine tl_nil ?_
   refine k7 _ _ ?_
   refine cx_ifT sv18 rfl rfl ?_
   refine wp_seq_k fun K19 k19 => ?_
   refine wp_region_lit ?_
   replace HB3_2 := rw_kn g18 HB3_2
   replace HB4_3 := rw_kn g18 HB4_3
   replace HB6_4 := rw_kn g18 HB6_4
   replace hr := hr.kn g18
   replace HG := grown_trans HG g18
   refine sx_hv sv18 1 [(20, dval zero32)]
     ⟨ox_build (vs := []) rfl rfl trivial trivial (fun _ => bD0 _) (fun _ => rfl), trivial⟩ fun a20 w20 g20 sv20 => ?_
   refine tl_sw sv20 r7 (tyD zero32 zero32_dg.1) (rw_kn g20 HB6_4) (lenD zero32_dg) fun w21 g21 h21 => ?_
   replace HB3_2 := rw_s2 g20 g21 HB3_2 (Ne.symm ne_B6_4_B3_2)
   replace HB4_3 := rw_s2 g20 g21 HB4_3 (Ne.symm ne_B6_4_B4_3)
   replace hr := (hr.kn g20).offR g21 (no_b ap_hr_B6_4)
   replace HG := grown_newR (grown_trans HG g20) g21 lo_B6_4
   replace HB6_4 := h21
   refine tl_as (v := .int .i64 1) sv20 r6 fun a22 sv22 => ?_
   refine tl_nil ?_
   refine k19 _ _ ?_
   refine wp_ret ?_
   repeat refine then_ret ?_
   refine cx_ret (fn := Try.f40) sv22 (res_ct (p := 6) (q := 7) Try.results40 sv22 rfl rfl rfl rfl (tyD zero32 zero32_dg.1) HB6_4) ?_
   exact ⟨retK' (keyO_bad (.inl (by unfold isAddr; simp; omega))), HG⟩
 · have haa := isAddr_yes ha
   obtain ⟨i, hi⟩ : ∃ i, pos (ks.map VK.p) o = i := ⟨_, rfl⟩
   have h64 : ks.length ≤ 64 := by have := (vldV_iff.1 hv).1; simpa using this
   refine wp_region_lit ?_
   refine sx_hv sv5 11 [(9, vval sa po (.slice ao ks.length cap)), (10, .bool true), (11, .bool false), (12, .bool false), (13, .int .i64 a), (14, .bool false), (15, .bool false), (16, .bool false), (17, .int .i64 a), (18, .bool false), (19, .bool false)]
     ⟨yl r6 (tyVa hsa hpo (.slice ao ks.length cap) rfl) HB3_2, ox_call (Sp.is (.bool true)) [vval sa po (.slice ao ks.length cap)] rfl rfl trivial ⟨(oy rfl rfl), trivial⟩ (is_on fun W g => rvvalid_B hsa hpo (hr.kn g) hv) (fun _ _ h => h) (enter_of Try.func46 (by kernel_rfl) rfl), ox_un rfl rfl trivial (oy rfl rfl) (fun _ => rn_not) (fun _ => rfl), ym r5, ox_move 2 13 (.inl rfl) rfl rfl (gy rfl rfl rfl) (fun _ _ h => h), ox_bin rfl rfl (gy rfl rfl rfl) (oy rfl rfl) rfl (fun _ => rn_lss (decide_eq_false (by omega))) (fun _ => rfl), ox_pick rfl rfl trivial (oy rfl rfl) (oy rfl rfl) (fun _ => rfl), ym r5, ox_move 2 17 (.inl rfl) rfl rfl (gy rfl rfl rfl) (fun _ _ h => h), ox_bin rfl rfl (gy rfl rfl rfl) (oy rfl rfl) rfl (fun _ => rn_geq (decide_eq_false (by omega))) (fun _ => rfl), ox_pick rfl rfl trivial (oy rfl rfl) (oy rfl rfl) (fun _ => rfl), trivial⟩ fun a23 w23 g23 sv23 => ?_
   refine tl_nil ?_
   refine k7 _ _ ?_
   refine cx_ifF sv23 rfl rfl ?_
   refine wp_skip ?_
   refine k6 _ _ ?_
   refine wp_seq_k fun K24 k24 => ?_
   replace HB3_2 := rw_kn g23 HB3_2
   replace HB4_3 := rw_kn g23 HB4_3
   replace HB6_4 := rw_kn g23 HB6_4
   replace hr := hr.kn g23
   replace HG := grown_trans HG g23
   cases hf : fnd (ks.map VK.p) o
   · refine wp_region_lit ?_
     refine sx_hv sv23 3 [(21, vval sa po (.slice ao ks.length cap)), (22, dval o), (23, .int .i64 ((-1)))]
       ⟨yl r6 (tyVa hsa hpo (.slice ao ks.length cap) rfl) HB3_2, yl r6 (tyD o ho.1) HB4_3, ox_call (Sp.is (.int .i64 ((-1)))) [vval sa po (.slice ao ks.length cap), dval o] rfl rfl trivial ⟨(oy rfl rfl), (oy rfl rfl), trivial⟩ (is_on fun W g => at_B hsa hpo ho (hr.kn g) hv (at_no hf)) (fun _ _ h => h) (enter_of Try.func75 (by kernel_rfl) rfl), trivial⟩ fun a25 w25 g25 sv25 => ?_
     refine tl_as (v := .int .i64 ((-1))) sv25 r6 fun a26 sv26 => ?_
     have sv27 : Sv 37 [] [(8, _), (9, _), (10, _), (11, _), (12, _), (13, _), (14, _), (15, _), (16, _), (17, _), (18, _), (19, _), (7, _), (6, _), (3, _), (0, _), (1, _), (2, _)] a26 := sv26.dl [21, 22, 23, 4]
     refine tl_nil ?_
     refine k24 _ _ ?_
     refine wp_seq_k fun K28 k28 => ?_
     refine wp_seq_k fun K29 k29 => ?_
     refine wp_region_lit ?_
     refine sx_hv sv27 2 [(24, .int .i64 ((-1))), (25, .bool true)]
       ⟨ym r5, ybc r6 (fun _ => rn_lss (by decide)), trivial⟩ fun a30 w30 g30 sv30 => ?_
     have gc30 := grown_trans g25 g30
     refine tl_nil ?_
     refine k29 _ _ ?_
     refine cx_ifT sv30 rfl rfl ?_
     refine wp_seq_k fun K31 k31 => ?_
     refine wp_region_lit ?_
     replace HB3_2 := rw_kn gc30 HB3_2
     replace HB4_3 := rw_kn gc30 HB4_3
     replace HB6_4 := rw_kn gc30 HB6_4
     replace hr := hr.kn gc30
     replace HG := grown_trans HG gc30
     refine sx_hv sv30 1 [(26, dval zero32)]
       ⟨ox_build (vs := []) rfl rfl trivial trivial (fun _ => bD0 _) (fun _ => rfl), trivial⟩ fun a32 w32 g32 sv32 => ?_
     refine tl_sw sv32 r7 (tyD zero32 zero32_dg.1) (rw_kn g32 HB6_4) (lenD zero32_dg) fun w33 g33 h33 => ?_
     replace HB3_2 := rw_s2 g32 g33 HB3_2 (Ne.symm ne_B6_4_B3_2)
     replace HB4_3 := rw_s2 g32 g33 HB4_3 (Ne.symm ne_B6_4_B4_3)
     replace hr := (hr.kn g32).offR g33 (no_b ap_hr_B6_4)
     replace HG := grown_newR (grown_trans HG g32) g33 lo_B6_4
     replace HB6_4 := h33
     refine tl_as (v := .int .i64 10) sv32 r6 fun a34 sv34 => ?_
     refine tl_nil ?_
     refine k31 _ _ ?_
     refine wp_ret ?_
     repeat refine then_ret ?_
     refine cx_ret (fn := Try.f40) sv34 (res_ct (p := 6) (q := 7) Try.results40 sv34 rfl rfl rfl rfl (tyD zero32 zero32_dg.1) HB6_4) ?_
     exact ⟨retK' (keyO_none ha hv hf), HG⟩
   · have hil : i < ks.length := by have := (fnd_at hf).1; rw [hi] at this; simpa using this
     obtain ⟨x, hx_x⟩ : ∃ x, ks[i]'hil = x := ⟨_, rfl⟩
     have htr : tr (ks.map VK.p) i = x.l := by rw [tr_map hil, hx_x]
     refine wp_region_lit ?_
     refine sx_hv sv23 3 [(21, vval sa po (.slice ao ks.length cap)), (22, dval o), (23, .int .i64 ((i : Int)))]
       ⟨yl r6 (tyVa hsa hpo (.slice ao ks.length cap) rfl) HB3_2, yl r6 (tyD o ho.1) HB4_3, ox_call (Sp.is (.int .i64 ((i : Int)))) [vval sa po (.slice ao ks.length cap), dval o] rfl rfl trivial ⟨(oy rfl rfl), (oy rfl rfl), trivial⟩ (is_on fun W g => at_B hsa hpo ho (hr.kn g) hv (at_yes hf hi)) (fun _ _ h => h) (enter_of Try.func75 (by kernel_rfl) rfl), trivial⟩ fun a35 w35 g35 sv35 => ?_
     refine tl_as (v := .int .i64 ((i : Int))) sv35 r6 fun a36 sv36 => ?_
     have sv37 : Sv 37 [] [(8, _), (9, _), (10, _), (11, _), (12, _), (13, _), (14, _), (15, _), (16, _), (17, _), (18, _), (19, _), (7, _), (6, _), (3, _), (0, _), (1, _), (2, _)] a36 := sv36.dl [21, 22, 23, 4]
     refine tl_nil ?_
     refine k24 _ _ ?_
     refine wp_seq_k fun K38 k38 => ?_
     refine wp_seq_k fun K39 k39 => ?_
     refine wp_region_lit ?_
     refine sx_hv sv37 2 [(24, .int .i64 ((i : Int))), (25, .bool false)]
       ⟨ym r5, ybc r6 (fun _ => rn_lss (decide_eq_false (by omega))), trivial⟩ fun a40 w40 g40 sv40 => ?_
     have gc40 := grown_trans g35 g40
     refine tl_nil ?_
     refine k39 _ _ ?_
     refine cx_ifF sv40 rfl rfl ?_
     refine wp_skip ?_
     refine k38 _ _ ?_
     refine wp_seq_k fun K41 k41 => ?_
     refine wp_region_lit ?_
     replace HB3_2 := rw_kn gc40 HB3_2
     replace HB4_3 := rw_kn gc40 HB4_3
     replace HB6_4 := rw_kn gc40 HB6_4
     replace hr := hr.kn gc40
     replace HG := grown_trans HG gc40
     refine sx_hv sv40 10 [(27, pk B3_2 64), (28, .slice ao ks.length cap), (29, .int .i64 ((i : Int))), (30, pk ((bO ao)) (oO ao + i * 33)), (31, pk ((bO ao)) (oO ao + i * 33 + 32)), (32, .agg #[VK.s x]), (33, .int .i64 a), (34, .tuple #[dval ((leafOf x.l a).1), .int .i64 ((leafOf x.l a).2)]), (35, dval ((leafOf x.l a).1)), (36, .int .i64 ((leafOf x.l a).2))]
       ⟨yf r6 (fun _ => by kernel_rfl), yp (i := 2) r6 (tyKs (.slice ao ks.length cap) rfl) HB3_2 rfl (by simp [bv_length, zero32_len, hsa.1, hpo.1]), ym r5, ox_index rfl rfl trivial (oy rfl rfl) (oy rfl rfl) (fun w => ix_sl Try.underlying56 (by kernel_rfl) (hr.1.1) (by omega) (rfl) w) (fun _ => rfl), yf r6 (fun _ => by kernel_rfl), ox_load rfl rfl trivial (oy rfl rfl) (fun _ g => loadsAt (tyT (VK.s x) rfl) (RdK.treeX (hr.kn g) rfl hil hx_x)) (fun _ => rfl), ym r5, ox_call (Sp.is (.tuple #[dval ((leafOf x.l a).1), .int .i64 ((leafOf x.l a).2)])) [.agg #[VK.s x], .int .i64 a] rfl rfl trivial ⟨(oy rfl rfl), (oy rfl rfl), trivial⟩ (is_on fun W g => rleaf_call rfl ((hr.kn g).kt hil hx_x)) (fun _ _ h => h) (enter_of Try.func22 (by kernel_rfl) rfl), ox_extract rfl rfl rfl trivial (fun _ _ h => ⟨_, _, h, rfl, rfl⟩), ox_extract rfl rfl rfl trivial (fun _ _ h => ⟨_, _, h, rfl, rfl⟩), trivial⟩ fun a42 w42 g42 sv42 => ?_
     refine tl_sw sv42 r7 (tyD ((leafOf x.l a).1) (leafOf_dg ((hr.kt hil hx_x).2.1) a).1) (rw_kn g42 HB6_4) (lenD (leafOf_dg ((hr.kt hil hx_x).2.1) a)) fun w43 g43 h43 => ?_
     replace HB3_2 := rw_s2 g42 g43 HB3_2 (Ne.symm ne_B6_4_B3_2)
     replace HB4_3 := rw_s2 g42 g43 HB4_3 (Ne.symm ne_B6_4_B4_3)
     replace hr := (hr.kn g42).offR g43 (no_b ap_hr_B6_4)
     replace HG := grown_newR (grown_trans HG g42) g43 lo_B6_4
     replace HB6_4 := h43
     refine tl_as (v := .int .i64 ((leafOf x.l a).2)) sv42 r6 fun a44 sv44 => ?_
     have sv45 : Sv 37 [] [(7, _), (24, _), (25, _), (8, _), (9, _), (10, _), (11, _), (12, _), (13, _), (14, _), (15, _), (16, _), (17, _), (18, _), (19, _), (6, _), (3, _), (0, _), (1, _), (2, _)] a44 := sv44.dl [27, 28, 29, 30, 31, 32, 33, 34, 35, 36]
     refine tl_nil ?_
     refine k41 _ _ ?_
     refine wp_ret ?_
     repeat refine then_ret ?_
     refine cx_ret (fn := Try.f40) sv45 (res_ct (p := 6) (q := 7) Try.results40 sv45 rfl rfl rfl rfl (tyD ((leafOf x.l a).1) (leafOf_dg ((hr.kt hil hx_x).2.1) a).1) HB6_4) ?_
     exact ⟨retK (keyO_leaf ha hv hf hi htr).symm, HG⟩
end Go.Proofs.Yteakoleceoclkaa
