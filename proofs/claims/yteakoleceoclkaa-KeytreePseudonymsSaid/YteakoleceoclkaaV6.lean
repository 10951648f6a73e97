/- Vaults: NewVault, Key. (printed by gen_v6.py) -/
import Derived.Test.YteakoleceoclkaaV5
import Derived.Test.YteakoleceoclkaaSJ
namespace Go.Proofs.Yteakoleceoclkaa
open Go.RowKit Go.Shelf
set_option linter.unusedSimpArgs false
set_option linter.unusedVariables false
def kd (n : Nat) (k : List Nat) : List Nat := keyed (BitVec.ofNat 64 n) k []
theorem kd_dg (n : Nat) (k : List Nat) : Dg (kd n k) := ⟨dig_len _ _, dig_lt _ _⟩
theorem keyed_c {n : Nat} (hn : n < 1000) {c : Int} (hc : c = (n : Int)) {k : List Nat} (hk : Dg k) (w : World) : Calls Try.prog 67 #[.int .u64 c, dval k, .slice none 0 0] w fun e w' => e = .returned (dval (kd n k)) ∧ w.grownBy w' none := by
 have e : c = wi (BitVec.ofNat 64 n) := by rw [hc, ← u64_wi, IntKind.wrap_u64]; omega
 rw [e]
 exact keyed_walk (BitVec.ofNat 64 n) k [] hk.1 hk.2 (by simp) (by simp) _ w (Sl.nil w 1)
theorem rkeyed_c {n : Nat} (hn : n < 1000) {c : Int} (hc : c = (n : Int)) {k : List Nat} (hk : Dg k) (w : World) : Calls Try.prog 76 #[.int .u64 c, dval k, .slice none 0 0] w fun e w' => e = .returned (dval (kd n k)) ∧ w.grownBy w' none := by
 have e : c = wi (BitVec.ofNat 64 n) := by rw [hc, ← u64_wi, IntKind.wrap_u64]; omega
 rw [e]
 exact rkeyed_walk (BitVec.ofNat 64 n) k [] hk.1 hk.2 (by simp) (by simp) _ w (Sl.nil w 1)
theorem bV0 (w : World) : (Instr.build 58 #[]).run Try.prog w = .ok (vval zero32 zero32 (.slice none 0 0)) w := by kernel_rfl
theorem bV2 {sa po : List Nat} (hs : Dg sa) (hp : Dg po) (w : World) : (Instr.build 58 #[(0, dval sa), (1, dval po)]).run Try.prog w = .ok (vval sa po (.slice none 0 0)) w := by
 obtain ⟨x0, x1, x2, x3, x4, x5, x6, x7, x8, x9, x10, x11, x12, x13, x14, x15, x16, x17, x18, x19, x20, x21, x22, x23, x24, x25, x26, x27, x28, x29, x30, x31, rfl⟩ := list32 _ hs.1
 obtain ⟨y0, y1, y2, y3, y4, y5, y6, y7, y8, y9, y10, y11, y12, y13, y14, y15, y16, y17, y18, y19, y20, y21, y22, y23, y24, y25, y26, y27, y28, y29, y30, y31, rfl⟩ := list32 _ hp.1
 kernel_rfl
theorem bK2' {o : List Nat} (ho : Dg o) (ao : Option Addr) (n cap : Nat) (w : World) : (Instr.build 65 #[(0, dval o), (1, .agg #[.slice ao n cap])]).run Try.prog w = .ok (.agg ([bv o, [.slice ao n cap]].flatten).toArray) w := by
 obtain ⟨x0, x1, x2, x3, x4, x5, x6, x7, x8, x9, x10, x11, x12, x13, x14, x15, x16, x17, x18, x19, x20, x21, x22, x23, x24, x25, x26, x27, x28, x29, x30, x31, rfl⟩ := list32 _ ho.1
 kernel_rfl
theorem bK2 {k : VK} (w : World) : (Instr.build 65 #[(0, dval k.o), (1, .agg #[k.s])]).run Try.prog w = .ok (kval k) w := bK2' k.ho k.ao k.l.length k.cap w
theorem bT1s (ao : Option Addr) (n cap : Nat) (w : World) : (Instr.build 34 #[(0, .slice ao n cap)]).run Try.prog w = .ok (.agg #[.slice ao n cap]) w := by kernel_rfl
theorem vvalid_B {w : World} {ks : List VK} {ao : Option Addr} {cap : Nat} {sa po : List Nat} (hsa : Dg sa) (hpo : Dg po) (hr : RdK w (.slice ao ks.length cap) ks) {b : Bool} (hb : vldV (ks.map VK.p) = b) : Calls Try.prog 45 #[vval sa po (.slice ao ks.length cap)] w fun e w' => e = .returned (.bool b) ∧ w.grownBy w' none := hb ▸ vvalid_walk ks ao cap sa po hsa hpo w hr
theorem find_B {w : World} {ks : List VK} {ao : Option Addr} {cap : Nat} {sa po o : List Nat} (hsa : Dg sa) (hpo : Dg po) (ho : Dg o) (hr : RdK w (.slice ao ks.length cap) ks) (hv : vldV (ks.map VK.p) = true) {b : Bool} (hb : fnd (ks.map VK.p) o = b) {i : Nat} (hi : pos (ks.map VK.p) o = i) : Calls Try.prog 70 #[vval sa po (.slice ao ks.length cap), dval o] w fun e w' => e = .returned (.tuple #[.int .i64 (i : Int), .bool b]) ∧ w.grownBy w' none :=
 hb ▸ hi ▸ find_walk ks ao cap sa po hsa hpo o ho w hr (Srt.of hv) (by have := (vldV_iff.1 hv).1; simpa using this)
set_option maxRecDepth 100000 in
set_option maxHeartbeats 4000000 in
theorem newv_walk (k : List Nat) (hk : Dg k) (w : World) :
   Calls Try.prog 35 #[dval k] w fun e w' => e = .returned (vval (kd 273 k) (kd 274 k) (.slice none 0 0)) ∧ w.grownBy w' none := by
 refine cx_enterD Try.func35 rfl Try.ntmps35 rfl fun a0 sv0 => ?_
 have HG := World.grownBy.refl w none
 replace sv0 : Sv 8 [] [(0, dval k)] a0 := sv0
 refine wp_seq_k fun K1 k1 => ?_
 refine wp_region_lit ?_
 refine tl_box sv0 rfl rfl rfl rfl rfl rfl (tyD k hk.1) fun a2 w2 B1_2 eq_B1_2 g2 z2 HB1_2 sv2 => ?_
 have lo_B1_2 := nb_lo HG eq_B1_2
 replace HG := grown_trans HG g2
 refine tl_alloc (T := 58) (Z := ([bv zero32, bv zero32, [.slice none 0 0]].flatten)) sv2 rfl rfl rfl (fun a w => by kernel_rfl) fun a3 w3 B2_3 eq_B2_3 g3 z3 HB2_3 sv3 => ?_
 have ne_B2_3_B1_2 := nb_ne HB1_2 eq_B2_3
 have lo_B2_3 := nb_lo HG eq_B2_3
 replace HB1_2 := rw_kn g3 HB1_2
 replace HG := grown_trans HG g3
 refine tl_nil ?_
 refine k1 _ _ ?_
 refine wp_seq_k fun K4 k4 => ?_
 refine wp_region_lit ?_
 refine tl_defer sv3 rfl (dd := { target := .fn (.func 66) #[], args := #[] }) rfl (by simp [execOp, resolve, Deferred.ofValue]; try rfl) fun a5 sv5 => ?_
 refine tl_nil ?_
 refine k4 _ _ ?_
 refine wp_seq_k fun K6 k6 => ?_
 refine rx_tail (sv5.st w3) (by kernel_rfl) 5 [(3, Sp.is (dval k)), (4, Sp.is (dval ((kd 273 k)))), (5, Sp.is (dval k)), (6, Sp.is (dval ((kd 274 k)))), (7, Sp.is (vval ((kd 273 k)) ((kd 274 k)) (.slice none 0 0)))] rfl (by kernel_rfl) (by kernel_rfl) (by kernel_rfl) [] (by kernel_rfl)
   ⟨yl r6 (tyD k hk.1) HB1_2, ox_call (Sp.is (dval ((kd 273 k)))) [.int .u64 273, dval k, .slice none 0 0] rfl rfl trivial ⟨rfl, (oy rfl rfl), rfl, trivial⟩ (is_on fun W g => keyed_c (n := 273) (by decide) rfl hk W) (fun _ _ h => h) (enter_of Try.func67 (by kernel_rfl) rfl), yl r6 (tyD k hk.1) HB1_2, ox_call (Sp.is (dval ((kd 274 k)))) [.int .u64 274, dval k, .slice none 0 0] rfl rfl trivial ⟨rfl, (oy rfl rfl), rfl, trivial⟩ (is_on fun W g => keyed_c (n := 274) (by decide) rfl hk W) (fun _ _ h => h) (enter_of Try.func67 (by kernel_rfl) rfl), ox_build (vs := [dval ((kd 273 k)), dval ((kd 274 k))]) rfl rfl trivial ⟨(oy rfl rfl), (oy rfl rfl), trivial⟩ (fun _ => bV2 (kd_dg _ _) (kd_dg _ _) _) (fun _ => rfl), trivial⟩ trivial
   [] (by kernel_rfl) trivial ⟨.inl rfl, .inl rfl, .inl rfl, .inl rfl, .inl rfl, trivial⟩ (by kernel_rfl) fun a7 w7 g7 st7 nd7 => ?_
 obtain ⟨hn7, hd7, e7_3, e7_4, e7_5, e7_6, e7_7, e7_2, e7_1, e7_0, -⟩ := st7
 have sv7 : Sv 8 [{ target := .fn (.func 66) #[], args := #[] }] [(2, _), (1, _), (0, _), (7, _)] a7 := ⟨hn7, hd7, e7_2, e7_1, e7_0, e7_7, trivial⟩
 refine tl_sw sv7 r7 (tyVa (kd_dg _ _) (kd_dg _ _) (.slice none 0 0) rfl) (rw_kn g7 HB2_3) (by first | rfl | simp [kcells, bv_length, zero32_len, (kd_dg _ _).1, (kd_dg _ _).1]) fun w8 g8 h8 => ?_
 replace HB1_2 := rw_s2 g7 g8 HB1_2 (Ne.symm ne_B2_3_B1_2)
 replace HG := grown_newR (grown_trans HG g7) g8 lo_B2_3
 replace HB2_3 := h8
 refine tl_nil ?_
 refine k6 _ _ ?_
 refine wp_ret ?_
 repeat refine then_ret ?_
 refine cx_retD (fn := Try.f35) sv7 (res_cell (p := 2) Try.results35 sv7 rfl rfl (tyVa (kd_dg _ _) (kd_dg _ _) (.slice none 0 0) rfl) HB2_3) (inv_of Try.func66 (by kernel_rfl) rfl _ _) (recNewVault_walk _) ?_
 exact ⟨rfl, HG⟩
set_option maxRecDepth 100000 in
set_option maxHeartbeats 4000000 in
theorem rnewv_walk (k : List Nat) (hk : Dg k) (w : World) :
   Calls Try.prog 49 #[dval k] w fun e w' => e = .returned (vval (kd 273 k) (kd 274 k) (.slice none 0 0)) ∧ w.grownBy w' none := by
 refine cx_enter Try.func49 rfl Try.ntmps49 rfl fun a0 sv0 => ?_
 have HG := World.grownBy.refl w none
 replace sv0 : Sv 8 [] [(0, dval k)] a0 := sv0
 refine wp_seq_k fun K1 k1 => ?_
 refine wp_region_lit ?_
 refine tl_box sv0 rfl rfl rfl rfl rfl rfl (tyD k hk.1) fun a2 w2 B1_2 eq_B1_2 g2 z2 HB1_2 sv2 => ?_
 have lo_B1_2 := nb_lo HG eq_B1_2
 replace HG := grown_trans HG g2
 refine tl_alloc (T := 58) (Z := ([bv zero32, bv zero32, [.slice none 0 0]].flatten)) sv2 rfl rfl rfl (fun a w => by kernel_rfl) fun a3 w3 B2_3 eq_B2_3 g3 z3 HB2_3 sv3 => ?_
 have ne_B2_3_B1_2 := nb_ne HB1_2 eq_B2_3
 have lo_B2_3 := nb_lo HG eq_B2_3
 replace HB1_2 := rw_kn g3 HB1_2
 replace HG := grown_trans HG g3
 refine tl_nil ?_
 refine k1 _ _ ?_
 refine wp_seq_k fun K4 k4 => ?_
 refine rx_tail (sv3.st w3) (by kernel_rfl) 5 [(3, Sp.is (dval k)), (4, Sp.is (dval ((kd 273 k)))), (5, Sp.is (dval k)), (6, Sp.is (dval ((kd 274 k)))), (7, Sp.is (vval ((kd 273 k)) ((kd 274 k)) (.slice none 0 0)))] rfl (by kernel_rfl) (by kernel_rfl) (by kernel_rfl) [] (by kernel_rfl)
   ⟨yl r6 (tyD k hk.1) HB1_2, ox_call (Sp.is (dval ((kd 273 k)))) [.int .u64 273, dval k, .slice none 0 0] rfl rfl trivial ⟨rfl, (oy rfl rfl), rfl, trivial⟩ (is_on fun W g => rkeyed_c (n := 273) (by decide) rfl hk W) (fun _ _ h => h) (enter_of Try.func76 (by kernel_rfl) rfl), yl r6 (tyD k hk.1) HB1_2, ox_call (Sp.is (dval ((kd 274 k)))) [.int .u64 274, dval k, .slice none 0 0] rfl rfl trivial ⟨rfl, (oy rfl rfl), rfl, trivial⟩ (is_on fun W g => rkeyed_c (n := 274) (by decide) rfl hk W) (fun _ _ h => h) (enter_of Try.func76 (by kernel_rfl) rfl), ox_build (vs := [dval ((kd 273 k)), dval ((kd 274 k))]) rfl rfl trivial ⟨(oy rfl rfl), (oy rfl rfl), trivial⟩ (fun _ => bV2 (kd_dg _ _) (kd_dg _ _) _) (fun _ => rfl), trivial⟩ trivial
   [] (by kernel_rfl) trivial ⟨.inl rfl, .inl rfl, .inl rfl, .inl rfl, .inl rfl, trivial⟩ (by kernel_rfl) fun a5 w5 g5 st5 nd5 => ?_
 obtain ⟨hn5, hd5, e5_3, e5_4, e5_5, e5_6, e5_7, e5_2, e5_1, e5_0, -⟩ := st5
 have sv5 : Sv 8 [] [(2, _), (1, _), (0, _), (7, _)] a5 := ⟨hn5, hd5, e5_2, e5_1, e5_0, e5_7, trivial⟩
 refine tl_sw sv5 r7 (tyVa (kd_dg _ _) (kd_dg _ _) (.slice none 0 0) rfl) (rw_kn g5 HB2_3) (by first | rfl | simp [kcells, bv_length, zero32_len, (kd_dg _ _).1, (kd_dg _ _).1]) fun w6 g6 h6 => ?_
 replace HB1_2 := rw_s2 g5 g6 HB1_2 (Ne.symm ne_B2_3_B1_2)
 replace HG := grown_newR (grown_trans HG g5) g6 lo_B2_3
 replace HB2_3 := h6
 refine tl_nil ?_
 refine k4 _ _ ?_
 refine wp_ret ?_
 repeat refine then_ret ?_
 refine cx_ret (fn := Try.f49) sv5 (res_cell (p := 2) Try.results49 sv5 rfl rfl (tyVa (kd_dg _ _) (kd_dg _ _) (.slice none 0 0) rfl) HB2_3) ?_
 exact ⟨rfl, HG⟩
end Go.Proofs.Yteakoleceoclkaa
