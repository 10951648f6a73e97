/- Vaults: step of the law KeytreeVaults. (printed by gen_vf.py) -/
import Derived.Test.YteakoleceoclkaaVE
namespace Go.Proofs.Yteakoleceoclkaa
open Go.RowKit Go.Shelf
set_option linter.unusedSimpArgs false
set_option linter.unusedVariables false
theorem tyIntV (x : Int) : TY Try.prog 3 [.int .i64 x] (.int .i64 x) := TY.one' Try.underlying3 rfl (by kernel_rfl) rfl
theorem tyInt64V (x : Int) : TY Try.prog 2 [.int .i64 x] (.int .i64 x) := TY.one' Try.underlying2 rfl (by kernel_rfl) rfl
structure Ac where
 k : Int
 o : Int
 a : Int
def acells (c : Ac) : List Value := [[.int .i64 c.k], [.int .i64 c.o], [.int .i64 c.a]].flatten
def aval (c : Ac) : Value := .agg (acells c).toArray
theorem acells_len (c : Ac) : (acells c).length = 3 := rfl
theorem tyAc (c : Ac) : TY Try.prog 80 (acells c) (aval c) := TY.agg Try.underlying80 rfl (by rw [acells_len]; kernel_rfl) (by
 intro x hx
 simp [acells] at hx
 rcases hx with rfl | rfl | rfl <;> rfl)
def Ac.m (c : Ac) : Int := bits .and .i64 c.k 3
theorem and3 (n : Int) : ∃ k : Nat, k ≤ 3 ∧ bits .and .i64 n 3 = (k : Int) := andp 3 (by decide) n (by decide)
def stpR (V : VV) (c : Ac) : VV × Int :=
 if c.m = 0 then ensO V (own4 c.o) (tree (kd 275 V.2.2) []) (kd 276 V.2.2) else if c.m = 1 then (V, 0) else if c.m = 2 then shrO V (own4 c.o) c.a else drpO V (own4 c.o)
def stpV (V : VV) (c : Ac) : VV := if (stpR V c).2 = 0 then (stpR V c).1 else V
theorem stpV_yes {V : VV} {c : Ac} {r : VV × Int} (h : stpR V c = r) (h0 : r.2 = 0) : stpV V c = r.1 := by unfold stpV; rw [h, if_pos h0]
theorem stpV_no {V : VV} {c : Ac} {r : VV × Int} (h : stpR V c = r) (h0 : ¬ r.2 = 0) : stpV V c = V := by unfold stpV; rw [h, if_neg h0]
def StR (w w' : World) (V : VV) (fp fq : Nat → Prop) (e : Ending) : Prop := ∃ ao cap ks ao2 cap2 ks2, e = .returned (.tuple #[vval V.2.1 V.2.2 (.slice ao (List.length ks) cap), vval V.2.1 V.2.2 (.slice ao2 (List.length ks2) cap2), .bool true]) ∧ ks.map VK.p = V.1 ∧ ks2.map VK.p = V.1 ∧
 RdK w' (.slice ao (List.length ks) cap) ks ∧ RdK w' (.slice ao2 (List.length ks2) cap2) ks2 ∧ (∀ k, fpK (.slice ao (List.length ks) cap) ks k → fp k ∨ TagV w' k) ∧ (∀ k, fpK (.slice ao2 (List.length ks2) cap2) ks2 k → fq k ∨ TagV w' k) ∧ w.grownBy w' none
theorem res_cct {fn : Func} {p q s : Tmp} {T U : TypeId} {n : Nat} {D : List Deferred} {K : List (Nat × Value)} {a : Act} {w : World} {P : Program} (hr : fn.results = #[.cell p T, .cell q U, .tmp s]) (sv : Sv n D K a) {b c : Nat} {cs ds : List Value} {v u x : Value} {t1 t2 : TypeId} {fr1 fr2 : Nat × Nat} (hx : hasV K p = true) (hp : lkV K p = .pointer (some ⟨b, 0, none⟩)) (hy : hasV K q = true) (hq : lkV K q = .pointer (some ⟨c, 0, none⟩)) (hz : hasV K s = true) (hs : lkV K s = x)
   (t : TY P T cs v) (t' : TY P U ds u) (hb : w.heap[b]? = some (.cells cs.toArray t1 fr1)) (hc : w.heap[c]? = some (.cells ds.toArray t2 fr2)) : (results fn a.tmps).run P w = .ok (.tuple #[v, u, x]) w := by
 have e1 := sv.2.2.at hx
 rw [hp] at e1
 have e2 := sv.2.2.at hy
 rw [hq] at e2
 have e3 := sv.2.2.at hz
 rw [hs] at e3
 have e := t.load w b 0 (rangeAt_row hb)
 have f := t'.load w c 0 (rangeAt_row hc)
 have e1' : a.tmps[p]?.getD undef = .pointer (some ⟨b, 0, none⟩) := by rw [← e1, Array.getD_eq_getD_getElem?]
 have e2' : a.tmps[q]?.getD undef = .pointer (some ⟨c, 0, none⟩) := by rw [← e2, Array.getD_eq_getD_getElem?]
 have e3' : a.tmps[s]?.getD undef = x := by rw [← e3, Array.getD_eq_getD_getElem?]
 simp [results, hr, e1', e2', e3', asAddr, e, f]
def TgF (w : World) (p q : Nat → Prop) : Prop := ∀ k, p k → q k ∨ TagV w k
theorem TgF.kn {w w' : World} {p q : Nat → Prop} (h : TgF w p q) (g : w.grownBy w' none) : TgF w' p q := tagsmono g h
theorem TgF.offR {w w' : World} {p q : Nat → Prop} (h : TgF w p q) {row : Option Nat} (g : w.grownBy w' row) (hb : ∀ k, p k → row ≠ some k) : TgF w' p q := fun k hk => (h k hk).imp id (·.keep g (hb k hk))
theorem owner_4 (n : Int) (w : World) : Calls Try.prog 51 #[.int .i64 n] w fun e w' => e = .returned (dval (own4 n)) ∧ w.grownBy w' none := owner_walk n w
set_option maxRecDepth 100000 in
set_option maxHeartbeats 4000000 in
theorem step_walk (ks ms : List VK) (ao bo : Option Addr) (cap bap : Nat) (sa po : List Nat) (hsa : Dg sa) (hpo : Dg po) (P : List VP) (hm : ks.map VK.p = P) (hm2 : ms.map VK.p = P) (c : Ac) (w : World) (ha : RdK w (.slice ao ks.length cap) ks) (hb : RdK w (.slice bo ms.length bap) ms) :
   Calls Try.prog 50 #[vval sa po (.slice ao ks.length cap), vval sa po (.slice bo ms.length bap), aval c] w fun e w' => StR w w' (stpV (P, sa, po) c) (fpK (.slice ao ks.length cap) ks) (fpK (.slice bo ms.length bap) ms) e := by
 obtain ⟨m, hm3, hmm⟩ := and3 c.k
 obtain ⟨O, hO⟩ : ∃ O, own4 c.o = O := ⟨_, rfl⟩
 have hOd : Dg O := hO ▸ own4_dg _
 obtain ⟨T, hT⟩ : ∃ T, tree (kd 275 po) [] = T := ⟨_, rfl⟩
 obtain ⟨r, hr⟩ : ∃ r, stpR (P, sa, po) c = r := ⟨_, rfl⟩
 have hrr := hr
 unfold stpR Ac.m at hrr
 rw [hmm, hO, show tree (kd 275 (P, sa, po).2.2) [] = T from hT] at hrr
 refine cx_enter Try.func50 rfl Try.ntmps50 rfl fun a0 sv0 => ?_
 have HG := World.grownBy.refl w none
 replace sv0 : Sv 127 [] [(0, vval sa po (.slice ao ks.length cap)), (1, vval sa po (.slice bo ms.length bap)), (2, aval c)] a0 := sv0
 refine wp_seq_k fun K1 k1 => ?_
 refine wp_region_lit ?_
 refine tl_box sv0 rfl rfl rfl rfl rfl rfl (tyVa hsa hpo (.slice ao ks.length cap) rfl) fun a2 w2 B3_2 eq_B3_2 g2 z2 HB3_2 sv2 => ?_
 have lo_B3_2 := nb_lo HG eq_B3_2
 have ap_ha_B3_2 := nb_ap (ha.lt) eq_B3_2
 have ap_hb_B3_2 := nb_ap (hb.lt) eq_B3_2
 replace ha := ha.kn g2
 replace hb := hb.kn g2
 replace HG := grown_trans HG g2
 refine tl_box sv2 rfl rfl rfl rfl rfl rfl (tyVa hsa hpo (.slice bo ms.length bap) rfl) fun a3 w3 B4_3 eq_B4_3 g3 z3 HB4_3 sv3 => ?_
 have ne_B4_3_B3_2 := nb_ne HB3_2 eq_B4_3
 have lo_B4_3 := nb_lo HG eq_B4_3
 have ap_ha_B4_3 := nb_ap (ha.lt) eq_B4_3
 have ap_hb_B4_3 := nb_ap (hb.lt) eq_B4_3
 replace HB3_2 := rw_kn g3 HB3_2
 replace ha := ha.kn g3
 replace hb := hb.kn g3
 replace HG := grown_trans HG g3
 refine tl_box sv3 rfl rfl rfl rfl rfl rfl (tyAc c) fun a4 w4 B5_4 eq_B5_4 g4 z4 HB5_4 sv4 => ?_
 have ne_B5_4_B3_2 := nb_ne HB3_2 eq_B5_4
 have ne_B5_4_B4_3 := nb_ne HB4_3 eq_B5_4
 have lo_B5_4 := nb_lo HG eq_B5_4
 have ap_ha_B5_4 := nb_ap (ha.lt) eq_B5_4
 have ap_hb_B5_4 := nb_ap (hb.lt) eq_B5_4
 replace HB3_2 := rw_kn g4 HB3_2
 replace HB4_3 := rw_kn g4 HB4_3
 replace ha := ha.kn g4
 replace hb := hb.kn g4
 replace HG := grown_trans HG g4
 refine tl_alloc (T := 58) (Z := ([bv zero32, bv zero32, [.slice none 0 0]].flatten)) sv4 rfl rfl rfl (fun a w => by kernel_rfl) fun a5 w5 B6_5 eq_B6_5 g5 z5 HB6_5 sv5 => ?_
 have ne_B6_5_B3_2 := nb_ne HB3_2 eq_B6_5
 have ne_B6_5_B4_3 := nb_ne HB4_3 eq_B6_5
 have ne_B6_5_B5_4 := nb_ne HB5_4 eq_B6_5
 have lo_B6_5 := nb_lo HG eq_B6_5
 have ap_ha_B6_5 := nb_ap (ha.lt) eq_B6_5
 have ap_hb_B6_5 := nb_ap (hb.lt) eq_B6_5
 replace HB3_2 := rw_kn g5 HB3_2
 replace HB4_3 := rw_kn g5 HB4_3
 replace HB5_4 := rw_kn g5 HB5_4
 replace ha := ha.kn g5
 replace hb := hb.kn g5
 replace HG := grown_trans HG g5
 refine tl_alloc (T := 58) (Z := ([bv zero32, bv zero32, [.slice none 0 0]].flatten)) sv5 rfl rfl rfl (fun a w => by kernel_rfl) fun a6 w6 B7_6 eq_B7_6 g6 z6 HB7_6 sv6 => ?_
 have ne_B7_6_B3_2 := nb_ne HB3_2 eq_B7_6
 have ne_B7_6_B4_3 := nb_ne HB4_3 eq_B7_6
 have ne_B7_6_B5_4 := nb_ne HB5_4 eq_B7_6
 have ne_B7_6_B6_5 := nb_ne HB6_5 eq_B7_6
 have lo_B7_6 := nb_lo HG eq_B7_6
 have ap_ha_B7_6 := nb_ap (ha.lt) eq_B7_6
 have ap_hb_B7_6 := nb_ap (hb.lt) eq_B7_6
 replace HB3_2 := rw_kn g6 HB3_2
 replace HB4_3 := rw_kn g6 HB4_3
 replace HB5_4 := rw_kn g6 HB5_4
 replace HB6_5 := rw_kn g6 HB6_5
 replace ha := ha.kn g6
 replace hb := hb.kn g6
 replace HG := grown_trans HG g6
 refine tl_as (v := .bool false) sv6 r6 fun a7 sv7 => ?_
 refine tl_nil ?_
 refine k1 _ _ ?_
 refine wp_seq_k fun K8 k8 => ?_
 refine wp_region_lit ?_
 refine tl_alloc (T := 58) (Z := ([bv zero32, bv zero32, [.slice none 0 0]].flatten)) sv7 rfl rfl rfl (fun a w => by kernel_rfl) fun a9 w9 B9_9 eq_B9_9 g9 z9 HB9_9 sv9 => ?_
 have ne_B9_9_B3_2 := nb_ne HB3_2 eq_B9_9
 have ne_B9_9_B4_3 := nb_ne HB4_3 eq_B9_9
 have ne_B9_9_B5_4 := nb_ne HB5_4 eq_B9_9
 have ne_B9_9_B6_5 := nb_ne HB6_5 eq_B9_9
 have ne_B9_9_B7_6 := nb_ne HB7_6 eq_B9_9
 have lo_B9_9 := nb_lo HG eq_B9_9
 have ap_ha_B9_9 := nb_ap (ha.lt) eq_B9_9
 have ap_hb_B9_9 := nb_ap (hb.lt) eq_B9_9
 replace HB3_2 := rw_kn g9 HB3_2
 replace HB4_3 := rw_kn g9 HB4_3
 replace HB5_4 := rw_kn g9 HB5_4
 replace HB6_5 := rw_kn g9 HB6_5
 replace HB7_6 := rw_kn g9 HB7_6
 replace ha := ha.kn g9
 replace hb := hb.kn g9
 replace HG := grown_trans HG g9
 refine tl_alloc (T := 58) (Z := ([bv zero32, bv zero32, [.slice none 0 0]].flatten)) sv9 rfl rfl rfl (fun a w => by kernel_rfl) fun a10 w10 B10_10 eq_B10_10 g10 z10 HB10_10 sv10 => ?_
 have ne_B10_10_B3_2 := nb_ne HB3_2 eq_B10_10
 have ne_B10_10_B4_3 := nb_ne HB4_3 eq_B10_10
 have ne_B10_10_B5_4 := nb_ne HB5_4 eq_B10_10
 have ne_B10_10_B6_5 := nb_ne HB6_5 eq_B10_10
 have ne_B10_10_B7_6 := nb_ne HB7_6 eq_B10_10
 have ne_B10_10_B9_9 := nb_ne HB9_9 eq_B10_10
 have lo_B10_10 := nb_lo HG eq_B10_10
 have ap_ha_B10_10 := nb_ap (ha.lt) eq_B10_10
 have ap_hb_B10_10 := nb_ap (hb.lt) eq_B10_10
 replace HB3_2 := rw_kn g10 HB3_2
 replace HB4_3 := rw_kn g10 HB4_3
 replace HB5_4 := rw_kn g10 HB5_4
 replace HB6_5 := rw_kn g10 HB6_5
 replace HB7_6 := rw_kn g10 HB7_6
 replace HB9_9 := rw_kn g10 HB9_9
 replace ha := ha.kn g10
 replace hb := hb.kn g10
 replace HG := grown_trans HG g10
 refine tl_nil ?_
 refine k8 _ _ ?_
 refine wp_seq_k fun K11 k11 => ?_
 refine wp_region_lit ?_
 refine tl_as (v := .int .i64 0) sv10 r6 fun a12 sv12 => ?_
 refine tl_as (v := .int .i64 0) sv12 r6 fun a13 sv13 => ?_
 refine tl_nil ?_
 refine k11 _ _ ?_
 refine wp_seq_k fun K14 k14 => ?_
 refine wp_seq_k fun K15 k15 => ?_
 refine wp_region_lit ?_
 refine sx_hv sv13 3 [(17, pt B5_4), (18, .int .i64 c.k), (19, .int .i64 ((m : Int)))]
   ⟨yf r6 (fun _ => by kernel_rfl), yp (i := 0) r6 (tyIntV c.k) HB5_4 rfl rfl, ybc r6 (fun _ => rn_and hmm), trivial⟩ fun a16 w16 g16 sv16 => ?_
 refine tl_nil ?_
 refine k15 _ _ ?_
 refine cx_block fun Q17 x17 y17 r17 o17 => ?_
 refine wp_seq_k fun K18 k18 => ?_
 replace HB3_2 := rw_kn g16 HB3_2
 replace HB4_3 := rw_kn g16 HB4_3
 replace HB5_4 := rw_kn g16 HB5_4
 replace HB6_5 := rw_kn g16 HB6_5
 replace HB7_6 := rw_kn g16 HB7_6
 replace HB9_9 := rw_kn g16 HB9_9
 replace HB10_10 := rw_kn g16 HB10_10
 replace ha := ha.kn g16
 replace hb := hb.kn g16
 replace HG := grown_trans HG g16
 rcases (show m = 0 ∨ m = 1 ∨ m = 2 ∨ m = 3 by omega) with h | h | h | h
 · rw [h, if_pos (show ((0 : Nat) : Int) = 0 from rfl)] at hrr
   have hdg_r : VDg r.1 := hrr ▸ ensO_dg ⟨hsa, hpo⟩ (kd_dg _ _)
   refine wp_region_lit ?_
   refine sx_hv sv16 1 [(21, .bool true)]
     ⟨ybc r6 (fun _ => rn_eql (by rw [h]; rfl)), trivial⟩ fun a19 w19 g19 sv19 => ?_
   refine tl_as (v := .bool true) sv19 r6 fun a20 sv20 => ?_
   refine tl_nil ?_
   refine k18 _ _ ?_
   refine cx_ifT sv20 rfl rfl ?_
   refine wp_seq_k fun K21 k21 => ?_
   replace HB3_2 := rw_kn g19 HB3_2
   replace HB4_3 := rw_kn g19 HB4_3
   replace HB5_4 := rw_kn g19 HB5_4
   replace HB6_5 := rw_kn g19 HB6_5
   replace HB7_6 := rw_kn g19 HB7_6
   replace HB9_9 := rw_kn g19 HB9_9
   replace HB10_10 := rw_kn g19 HB10_10
   replace ha := ha.kn g19
   replace hb := hb.kn g19
   replace HG := grown_trans HG g19
   refine rx_tail (sv20.st w19) (by kernel_rfl) 8 [(23, Sp.is (vval sa po (.slice ao ks.length cap))), (24, Sp.is (pk B5_4 1)), (25, Sp.is (.int .i64 c.o)), (26, Sp.is (dval O)), (27, Sp.vt r ((fun _ => False))), (22, Sp.vt r ((fun _ => False))), (28, Sp.vv r.1 ((fun _ => False))), (29, Sp.is (.int .i64 r.2))] rfl (by kernel_rfl) (by kernel_rfl) (by kernel_rfl) [7] (by kernel_rfl)
     ⟨yl r6 (tyVa hsa hpo (.slice ao ks.length cap) rfl) HB3_2, yf r6 (fun _ => by kernel_rfl), yp (i := 1) r6 (tyIntV c.o) HB5_4 rfl rfl, ox_call (Sp.is (dval O)) [.int .i64 c.o] rfl rfl trivial ⟨(oy rfl rfl), trivial⟩ (is_on fun W g => hO ▸ owner_4 c.o W) (fun _ _ h => h) (enter_of Try.func51 (by kernel_rfl) rfl), ox_call (Sp.vt r ((fun _ => False))) [vval sa po (.slice ao ks.length cap), dval O] rfl rfl trivial ⟨(oy rfl rfl), (oy rfl rfl), trivial⟩ (ens_on hsa hpo hOd ha hm hT hrr) (fun _ _ h => h) (enter_of Try.func36 (by kernel_rfl) rfl), ym r5, ox_extract rfl rfl rfl trivial (fun w u h => vt_vault w u h), ox_extract rfl rfl rfl trivial (fun w u h => vt_err w u h), trivial⟩ ⟨fun o ho => by obtain rfl := Option.some.inj ho; exact px_extract rfl rfl rfl trivial (fun w u h => vt_err w u h), trivial⟩
     [] (by kernel_rfl) trivial ⟨.inl rfl, .inl rfl, .inl rfl, .inl rfl, .inl rfl, .inl rfl, .inl rfl, .inl rfl, trivial⟩ (by kernel_rfl) fun a22 w22 g22 st22 nd22 => ?_
   obtain ⟨hn22, hd22, e22_23, e22_24, e22_25, e22_26, e22_27, e22_22, e22_28, e22_29, e22_20, e22_21, e22_17, e22_18, e22_19, e22_12, e22_11, e22_10, e22_9, e22_8, e22_7, e22_6, e22_5, e22_4, e22_3, e22_0, e22_1, e22_2, -⟩ := st22
   obtain ⟨ao23, cap23, ks23, e22_28q, hp23, hk23, hf23⟩ := e22_28
   replace HB3_2 := rw_kn g22 HB3_2
   replace HB4_3 := rw_kn g22 HB4_3
   replace HB5_4 := rw_kn g22 HB5_4
   replace HB6_5 := rw_kn g22 HB6_5
   replace HB7_6 := rw_kn g22 HB7_6
   replace HB9_9 := rw_kn g22 HB9_9
   replace HB10_10 := rw_kn g22 HB10_10
   replace ha := ha.kn g22
   replace hb := hb.kn g22
   replace HG := grown_trans HG g22
   have ap_hk23_B3_2 := vt_ap0 hf23 HB3_2 (by decide)
   have ap_hk23_B4_3 := vt_ap0 hf23 HB4_3 (by decide)
   have ap_hk23_B5_4 := vt_ap0 hf23 HB5_4 (by decide)
   have ap_hk23_B6_5 := vt_ap0 hf23 HB6_5 (by decide)
   have ap_hk23_B7_6 := vt_ap0 hf23 HB7_6 (by decide)
   have ap_hk23_B9_9 := vt_ap0 hf23 HB9_9 (by decide)
   have ap_hk23_B10_10 := vt_ap0 hf23 HB10_10 (by decide)
   have sv22 : Sv 127 [] [(20, _), (21, _), (17, _), (18, _), (19, _), (12, _), (11, _), (10, _), (9, _), (8, _), (7, _), (6, _), (5, _), (4, _), (3, _), (0, _), (1, _), (2, _), (28, _), (29, _)] a22 := ⟨hn22, hd22, e22_20, e22_21, e22_17, e22_18, e22_19, e22_12, e22_11, e22_10, e22_9, e22_8, e22_7, e22_6, e22_5, e22_4, e22_3, e22_0, e22_1, e22_2, e22_28q, e22_29, trivial⟩
   refine tl_sw sv22 r7 (tyVa hdg_r.1 hdg_r.2 (.slice ao23 ks23.length cap23) rfl) HB9_9 (by first | rfl | simp [kcells, bv_length, zero32_len, hdg_r.1.1, hdg_r.2.1]) fun w24 g24 h24 => ?_
   replace HB3_2 := rw_st g24 HB3_2 (Ne.symm ne_B9_9_B3_2)
   replace HB4_3 := rw_st g24 HB4_3 (Ne.symm ne_B9_9_B4_3)
   replace HB5_4 := rw_st g24 HB5_4 (Ne.symm ne_B9_9_B5_4)
   replace HB6_5 := rw_st g24 HB6_5 (Ne.symm ne_B9_9_B6_5)
   replace HB7_6 := rw_st g24 HB7_6 (Ne.symm ne_B9_9_B7_6)
   replace HB10_10 := rw_st g24 HB10_10 ne_B10_10_B9_9
   replace ha := ha.offR g24 (no_b ap_ha_B9_9)
   replace hb := hb.offR g24 (no_b ap_hb_B9_9)
   replace hk23 := hk23.offR g24 (no_b ap_hk23_B9_9)
   replace hf23 := TgF.offR hf23 g24 (no_b ap_hk23_B9_9)
   replace HG := grown_newR HG g24 lo_B9_9
   replace HB9_9 := h24
   refine tl_as (v := .int .i64 r.2) sv22 r6 fun a25 sv25 => ?_
   refine tl_nil ?_
   refine k21 _ _ ?_
   refine rx_tail (sv25.st w24) (by kernel_rfl) 8 [(31, Sp.is (vval sa po (.slice bo ms.length bap))), (32, Sp.is (pk B5_4 1)), (33, Sp.is (.int .i64 c.o)), (34, Sp.is (dval O)), (35, Sp.vt r (fpK (.slice bo ms.length bap) ms)), (30, Sp.vt r (fpK (.slice bo ms.length bap) ms)), (36, Sp.vv r.1 (fpK (.slice bo ms.length bap) ms)), (37, Sp.is (.int .i64 r.2))] rfl (by kernel_rfl) (by kernel_rfl) (by kernel_rfl) [7] (by kernel_rfl)
     ⟨yl r6 (tyVa hsa hpo (.slice bo ms.length bap) rfl) HB4_3, yf r6 (fun _ => by kernel_rfl), yp (i := 1) r6 (tyIntV c.o) HB5_4 rfl rfl, ox_call (Sp.is (dval O)) [.int .i64 c.o] rfl rfl trivial ⟨(oy rfl rfl), trivial⟩ (is_on fun W g => hO ▸ owner_4 c.o W) (fun _ _ h => h) (enter_of Try.func51 (by kernel_rfl) rfl), ox_call (Sp.vt r (fpK (.slice bo ms.length bap) ms)) [vval sa po (.slice bo ms.length bap), dval O] rfl rfl trivial ⟨(oy rfl rfl), (oy rfl rfl), trivial⟩ (rens_on hsa hpo hOd hb hm2 hT hrr) (fun _ _ h => h) (enter_of Try.func41 (by kernel_rfl) rfl), ym r5, ox_extract rfl rfl rfl trivial (fun w u h => vt_vault w u h), ox_extract rfl rfl rfl trivial (fun w u h => vt_err w u h), trivial⟩ ⟨fun o ho => by obtain rfl := Option.some.inj ho; exact px_extract rfl rfl rfl trivial (fun w u h => vt_err w u h), trivial⟩
     [] (by kernel_rfl) trivial ⟨.inl rfl, .inl rfl, .inl rfl, .inl rfl, .inl rfl, .inl rfl, .inl rfl, .inl rfl, trivial⟩ (by kernel_rfl) fun a26 w26 g26 st26 nd26 => ?_
   obtain ⟨hn26, hd26, e26_31, e26_32, e26_33, e26_34, e26_35, e26_30, e26_36, e26_37, e26_11, e26_20, e26_21, e26_17, e26_18, e26_19, e26_12, e26_10, e26_9, e26_8, e26_7, e26_6, e26_5, e26_4, e26_3, e26_0, e26_1, e26_2, e26_28, e26_29, -⟩ := st26
   obtain ⟨ao27, cap27, ks27, e26_36q, hp27, hk27, hf27⟩ := e26_36
   replace HB3_2 := rw_kn g26 HB3_2
   replace HB4_3 := rw_kn g26 HB4_3
   replace HB5_4 := rw_kn g26 HB5_4
   replace HB6_5 := rw_kn g26 HB6_5
   replace HB7_6 := rw_kn g26 HB7_6
   replace HB9_9 := rw_kn g26 HB9_9
   replace HB10_10 := rw_kn g26 HB10_10
   replace ha := ha.kn g26
   replace hb := hb.kn g26
   replace hk23 := hk23.kn g26
   replace hf23 := TgF.kn hf23 g26
   replace HG := grown_trans HG g26
   have ap_hk27_B3_2 := vt_ap1 hf27 ap_hb_B3_2 HB3_2 (by decide)
   have ap_hk27_B4_3 := vt_ap1 hf27 ap_hb_B4_3 HB4_3 (by decide)
   have ap_hk27_B5_4 := vt_ap1 hf27 ap_hb_B5_4 HB5_4 (by decide)
   have ap_hk27_B6_5 := vt_ap1 hf27 ap_hb_B6_5 HB6_5 (by decide)
   have ap_hk27_B7_6 := vt_ap1 hf27 ap_hb_B7_6 HB7_6 (by decide)
   have ap_hk27_B9_9 := vt_ap1 hf27 ap_hb_B9_9 HB9_9 (by decide)
   have ap_hk27_B10_10 := vt_ap1 hf27 ap_hb_B10_10 HB10_10 (by decide)
   have sv26 : Sv 127 [] [(11, _), (20, _), (21, _), (17, _), (18, _), (19, _), (12, _), (10, _), (9, _), (8, _), (7, _), (6, _), (5, _), (4, _), (3, _), (0, _), (1, _), (2, _), (28, _), (29, _), (36, _), (37, _)] a26 := ⟨hn26, hd26, e26_11, e26_20, e26_21, e26_17, e26_18, e26_19, e26_12, e26_10, e26_9, e26_8, e26_7, e26_6, e26_5, e26_4, e26_3, e26_0, e26_1, e26_2, e26_28, e26_29, e26_36q, e26_37, trivial⟩
   refine tl_sw sv26 r7 (tyVa hdg_r.1 hdg_r.2 (.slice ao27 ks27.length cap27) rfl) HB10_10 (by first | rfl | simp [kcells, bv_length, zero32_len, hdg_r.1.1, hdg_r.2.1]) fun w28 g28 h28 => ?_
   replace HB3_2 := rw_st g28 HB3_2 (Ne.symm ne_B10_10_B3_2)
   replace HB4_3 := rw_st g28 HB4_3 (Ne.symm ne_B10_10_B4_3)
   replace HB5_4 := rw_st g28 HB5_4 (Ne.symm ne_B10_10_B5_4)
   replace HB6_5 := rw_st g28 HB6_5 (Ne.symm ne_B10_10_B6_5)
   replace HB7_6 := rw_st g28 HB7_6 (Ne.symm ne_B10_10_B7_6)
   replace HB9_9 := rw_st g28 HB9_9 (Ne.symm ne_B10_10_B9_9)
   replace ha := ha.offR g28 (no_b ap_ha_B10_10)
   replace hb := hb.offR g28 (no_b ap_hb_B10_10)
   replace hk23 := hk23.offR g28 (no_b ap_hk23_B10_10)
   replace hf23 := TgF.offR hf23 g28 (no_b ap_hk23_B10_10)
   replace hk27 := hk27.offR g28 (no_b ap_hk27_B10_10)
   replace hf27 := TgF.offR hf27 g28 (no_b ap_hk27_B10_10)
   replace HG := grown_newR HG g28 lo_B10_10
   replace HB10_10 := h28
   refine tl_as (v := .int .i64 r.2) sv26 r6 fun a29 sv29 => ?_
   refine tl_nil ?_
   refine y17 _ _ ?_
   refine k14 _ _ ?_
   refine wp_seq_k fun K30 k30 => ?_
   refine wp_seq_k fun K31 k31 => ?_
   refine wp_region_lit ?_
   refine sx_hv sv29 9 [(110, .int .i64 r.2), (111, .int .i64 r.2), (112, .bool false), (113, .bool false), (114, vval r.1.2.1 r.1.2.2 (.slice ao23 ks23.length cap23)), (115, vval r.1.2.1 r.1.2.2 (.slice ao27 ks27.length cap27)), (116, .bool true), (117, .bool false), (118, .bool false)]
     ⟨ym r5, ym r5, ybt r7 (fun _ => rn_neq (by simp)), ym r5, ox_load rfl rfl (gy rfl rfl rfl) (oy rfl rfl) (fun _ g => loadsAt (tyVa hdg_r.1 hdg_r.2 (.slice ao23 ks23.length cap23) rfl) (rangeAt_row (row_of g HB9_9 (by simp)))) (fun _ => rfl), ox_load rfl rfl (gy rfl rfl rfl) (oy rfl rfl) (fun _ g => loadsAt (tyVa hdg_r.1 hdg_r.2 (.slice ao27 ks27.length cap27) rfl) (rangeAt_row (row_of g HB10_10 (by simp)))) (fun _ => rfl), ox_call (Sp.is (.bool true)) [vval r.1.2.1 r.1.2.2 (.slice ao23 ks23.length cap23), vval r.1.2.1 r.1.2.2 (.slice ao27 ks27.length cap27)] rfl rfl (gy rfl rfl rfl) ⟨(oy rfl rfl), (oy rfl rfl), trivial⟩ (is_on fun W g => samev_walk ks23 ks27 _ _ _ _ _ _ hdg_r.1 hdg_r.2 (hp23.trans hp27.symm) W (hk23.kn g) (hk27.kn g)) (fun _ _ h => h) (enter_of Try.func38 (by kernel_rfl) rfl), ox_un rfl rfl (gy rfl rfl rfl) (oy rfl rfl) (fun _ => rn_not) (fun _ => rfl), ox_pick rfl rfl trivial (oy rfl rfl) (oy rfl rfl) (fun _ => rfl), trivial⟩ fun a32 w32 g32 sv32 => ?_
   refine tl_nil ?_
   refine k31 _ _ ?_
   refine cx_ifF sv32 rfl rfl ?_
   refine wp_skip ?_
   refine k30 _ _ ?_
   refine wp_seq_k fun K33 k33 => ?_
   refine wp_seq_k fun K34 k34 => ?_
   replace HB3_2 := rw_kn g32 HB3_2
   replace HB4_3 := rw_kn g32 HB4_3
   replace HB5_4 := rw_kn g32 HB5_4
   replace HB6_5 := rw_kn g32 HB6_5
   replace HB7_6 := rw_kn g32 HB7_6
   replace HB9_9 := rw_kn g32 HB9_9
   replace HB10_10 := rw_kn g32 HB10_10
   replace ha := ha.kn g32
   replace hb := hb.kn g32
   replace hk23 := hk23.kn g32
   replace hf23 := TgF.kn hf23 g32
   replace hk27 := hk27.kn g32
   replace hf27 := TgF.kn hf27 g32
   replace HG := grown_trans HG g32
   by_cases h0 : r.2 = 0
   · refine wp_region_lit ?_
     refine sx_hv sv32 2 [(121, .int .i64 r.2), (122, .bool false)]
       ⟨ym r5, ybc r6 (fun _ => rn_neq (by rw [h0]; rfl)), trivial⟩ fun a35 w35 g35 sv35 => ?_
     refine tl_nil ?_
     refine k34 _ _ ?_
     refine cx_ifF sv35 rfl rfl ?_
     refine wp_skip ?_
     refine k33 _ _ ?_
     refine wp_seq_k fun K36 k36 => ?_
     replace HB3_2 := rw_kn g35 HB3_2
     replace HB4_3 := rw_kn g35 HB4_3
     replace HB5_4 := rw_kn g35 HB5_4
     replace HB6_5 := rw_kn g35 HB6_5
     replace HB7_6 := rw_kn g35 HB7_6
     replace HB9_9 := rw_kn g35 HB9_9
     replace HB10_10 := rw_kn g35 HB10_10
     replace ha := ha.kn g35
     replace hb := hb.kn g35
     replace hk23 := hk23.kn g35
     replace hf23 := TgF.kn hf23 g35
     replace hk27 := hk27.kn g35
     replace hf27 := TgF.kn hf27 g35
     replace HG := grown_trans HG g35
     have gd37 := grown_drew w35
     replace HB3_2 := rw_kn gd37 HB3_2
     replace HB4_3 := rw_kn gd37 HB4_3
     replace HB5_4 := rw_kn gd37 HB5_4
     replace HB6_5 := rw_kn gd37 HB6_5
     replace HB7_6 := rw_kn gd37 HB7_6
     replace HB9_9 := rw_kn gd37 HB9_9
     replace HB10_10 := rw_kn gd37 HB10_10
     replace ha := ha.kn gd37
     replace hb := hb.kn gd37
     replace hk23 := hk23.kn gd37
     replace hf23 := TgF.kn hf23 gd37
     replace hk27 := hk27.kn gd37
     replace hf27 := TgF.kn hf27 gd37
     replace HG := grown_trans HG gd37
     refine wp_region_noPanic ?_
     refine region_script (fun w' => w'.heap[B9_9]? = some (.cells ([bv r.1.2.1, bv r.1.2.2, [.slice ao23 ks23.length cap23]].flatten).toArray 58 (0, 0)) ∧ w'.heap[B10_10]? = some (.cells ([bv r.1.2.1, bv r.1.2.2, [.slice ao27 ks27.length cap27]].flatten).toArray 58 (0, 0)) ∧ True) [0, 1] [2, 3, 4] (by kernel_rfl) (by kernel_rfl) (fun _ _ d _ _ h => by cases d <;> exact h) rfl (by kernel_rfl) ⟨HB9_9, HB10_10, trivial⟩ ?_
     simp only [List.filterMap_cons, List.filterMap_nil, List.getElem?_toArray, List.getElem?_cons_succ, List.getElem?_cons_zero]
     refine tk_load sv35 rfl rfl rfl rfl ⟨rfl, rfl⟩ (fun w hS => loadsAt (tyVa hdg_r.1 hdg_r.2 (.slice ao23 ks23.length cap23) rfl) (rangeAt_row hS.1)) fun a38 sv38 => ?_
     refine tk_load sv38 rfl rfl rfl rfl ⟨rfl, rfl⟩ (fun w hS => loadsAt (tyVa hdg_r.1 hdg_r.2 (.slice ao27 ks27.length cap27) rfl) (rangeAt_row hS.2.1)) fun a39 sv39 => ?_
     change wpList _ _ _ _ _ _
     refine tl_sw sv39 r7 (tyVa hdg_r.1 hdg_r.2 (.slice ao23 ks23.length cap23) rfl) HB6_5 (by first | rfl | simp [kcells, bv_length, zero32_len, hdg_r.1.1, hdg_r.2.1]) fun w40 g40 h40 => ?_
     replace HB3_2 := rw_st g40 HB3_2 (Ne.symm ne_B6_5_B3_2)
     replace HB4_3 := rw_st g40 HB4_3 (Ne.symm ne_B6_5_B4_3)
     replace HB5_4 := rw_st g40 HB5_4 (Ne.symm ne_B6_5_B5_4)
     replace HB7_6 := rw_st g40 HB7_6 ne_B7_6_B6_5
     replace HB9_9 := rw_st g40 HB9_9 ne_B9_9_B6_5
     replace HB10_10 := rw_st g40 HB10_10 ne_B10_10_B6_5
     replace ha := ha.offR g40 (no_b ap_ha_B6_5)
     replace hb := hb.offR g40 (no_b ap_hb_B6_5)
     replace hk23 := hk23.offR g40 (no_b ap_hk23_B6_5)
     replace hf23 := TgF.offR hf23 g40 (no_b ap_hk23_B6_5)
     replace hk27 := hk27.offR g40 (no_b ap_hk27_B6_5)
     replace hf27 := TgF.offR hf27 g40 (no_b ap_hk27_B6_5)
     replace HG := grown_newR HG g40 lo_B6_5
     replace HB6_5 := h40
     refine tl_nil ⟨⟨HB9_9, HB10_10, trivial⟩, ?_⟩
     change wpList _ _ _ _ _ _
     refine tl_sw sv39 r7 (tyVa hdg_r.1 hdg_r.2 (.slice ao27 ks27.length cap27) rfl) HB7_6 (by first | rfl | simp [kcells, bv_length, zero32_len, hdg_r.1.1, hdg_r.2.1]) fun w41 g41 h41 => ?_
     replace HB3_2 := rw_st g41 HB3_2 (Ne.symm ne_B7_6_B3_2)
     replace HB4_3 := rw_st g41 HB4_3 (Ne.symm ne_B7_6_B4_3)
     replace HB5_4 := rw_st g41 HB5_4 (Ne.symm ne_B7_6_B5_4)
     replace HB6_5 := rw_st g41 HB6_5 (Ne.symm ne_B7_6_B6_5)
     replace HB9_9 := rw_st g41 HB9_9 ne_B9_9_B7_6
     replace HB10_10 := rw_st g41 HB10_10 ne_B10_10_B7_6
     replace ha := ha.offR g41 (no_b ap_ha_B7_6)
     replace hb := hb.offR g41 (no_b ap_hb_B7_6)
     replace hk23 := hk23.offR g41 (no_b ap_hk23_B7_6)
     replace hf23 := TgF.offR hf23 g41 (no_b ap_hk23_B7_6)
     replace hk27 := hk27.offR g41 (no_b ap_hk27_B7_6)
     replace hf27 := TgF.offR hf27 g41 (no_b ap_hk27_B7_6)
     replace HG := grown_newR HG g41 lo_B7_6
     replace HB7_6 := h41
     refine tl_nil ⟨⟨HB9_9, HB10_10, trivial⟩, ?_⟩
     change wpList _ _ _ _ _ _
     refine tl_as (v := .bool true) sv39 r6 fun a42 sv42 => ?_
     refine tl_nil ⟨⟨HB9_9, HB10_10, trivial⟩, ?_⟩
     refine NoPanic.normal ?_
     refine k36 _ _ ?_
     refine wp_ret ?_
     repeat refine then_ret ?_
     refine cx_ret (fn := Try.f50) sv42 (res_cct (p := 6) (q := 7) (s := 8) Try.results50 sv42 rfl rfl rfl rfl rfl rfl (tyVa hdg_r.1 hdg_r.2 (.slice ao23 ks23.length cap23) rfl) (tyVa hdg_r.1 hdg_r.2 (.slice ao27 ks27.length cap27) rfl) HB6_5 HB7_6) ?_
     exact (stpV_yes hr h0).symm ▸ ⟨_, _, ks23, _, _, ks27, rfl, hp23, hp27, hk23, hk27, fun k hk => (hf23 k hk).elim (fun h => h.elim) .inr, hf27, HG⟩
   · refine wp_region_lit ?_
     refine sx_hv sv32 2 [(121, .int .i64 r.2), (122, .bool true)]
       ⟨ym r5, ybc r6 (fun _ => rn_neq (by simpa using h0)), trivial⟩ fun a43 w43 g43 sv43 => ?_
     refine tl_nil ?_
     refine k34 _ _ ?_
     refine cx_ifT sv43 rfl rfl ?_
     refine wp_seq_k fun K44 k44 => ?_
     replace HB3_2 := rw_kn g43 HB3_2
     replace HB4_3 := rw_kn g43 HB4_3
     replace HB5_4 := rw_kn g43 HB5_4
     replace HB6_5 := rw_kn g43 HB6_5
     replace HB7_6 := rw_kn g43 HB7_6
     replace HB9_9 := rw_kn g43 HB9_9
     replace HB10_10 := rw_kn g43 HB10_10
     replace ha := ha.kn g43
     replace hb := hb.kn g43
     replace hk23 := hk23.kn g43
     replace hf23 := TgF.kn hf23 g43
     replace hk27 := hk27.kn g43
     replace hf27 := TgF.kn hf27 g43
     replace HG := grown_trans HG g43
     have gd45 := grown_drew w43
     replace HB3_2 := rw_kn gd45 HB3_2
     replace HB4_3 := rw_kn gd45 HB4_3
     replace HB5_4 := rw_kn gd45 HB5_4
     replace HB6_5 := rw_kn gd45 HB6_5
     replace HB7_6 := rw_kn gd45 HB7_6
     replace HB9_9 := rw_kn gd45 HB9_9
     replace HB10_10 := rw_kn gd45 HB10_10
     replace ha := ha.kn gd45
     replace hb := hb.kn gd45
     replace hk23 := hk23.kn gd45
     replace hf23 := TgF.kn hf23 gd45
     replace hk27 := hk27.kn gd45
     replace hf27 := TgF.kn hf27 gd45
     replace HG := grown_trans HG gd45
     refine wp_region_noPanic ?_
     refine region_script (fun w' => w'.heap[B3_2]? = some (.cells ([bv sa, bv po, [.slice ao ks.length cap]].flatten).toArray 58 (0, 0)) ∧ w'.heap[B4_3]? = some (.cells ([bv sa, bv po, [.slice bo ms.length bap]].flatten).toArray 58 (0, 0)) ∧ True) [0, 1] [2, 3, 4] (by kernel_rfl) (by kernel_rfl) (fun _ _ d _ _ h => by cases d <;> exact h) rfl (by kernel_rfl) ⟨HB3_2, HB4_3, trivial⟩ ?_
     simp only [List.filterMap_cons, List.filterMap_nil, List.getElem?_toArray, List.getElem?_cons_succ, List.getElem?_cons_zero]
     refine tk_load sv43 rfl rfl rfl rfl ⟨rfl, rfl⟩ (fun w hS => loadsAt (tyVa hsa hpo (.slice ao ks.length cap) rfl) (rangeAt_row hS.1)) fun a46 sv46 => ?_
     refine tk_load sv46 rfl rfl rfl rfl ⟨rfl, rfl⟩ (fun w hS => loadsAt (tyVa hsa hpo (.slice bo ms.length bap) rfl) (rangeAt_row hS.2.1)) fun a47 sv47 => ?_
     change wpList _ _ _ _ _ _
     refine tl_sw sv47 r7 (tyVa hsa hpo (.slice ao ks.length cap) rfl) HB6_5 (by first | rfl | simp [kcells, bv_length, zero32_len, hsa.1, hpo.1]) fun w48 g48 h48 => ?_
     replace HB3_2 := rw_st g48 HB3_2 (Ne.symm ne_B6_5_B3_2)
     replace HB4_3 := rw_st g48 HB4_3 (Ne.symm ne_B6_5_B4_3)
     replace HB5_4 := rw_st g48 HB5_4 (Ne.symm ne_B6_5_B5_4)
     replace HB7_6 := rw_st g48 HB7_6 ne_B7_6_B6_5
     replace HB9_9 := rw_st g48 HB9_9 ne_B9_9_B6_5
     replace HB10_10 := rw_st g48 HB10_10 ne_B10_10_B6_5
     replace ha := ha.offR g48 (no_b ap_ha_B6_5)
     replace hb := hb.offR g48 (no_b ap_hb_B6_5)
     replace hk23 := hk23.offR g48 (no_b ap_hk23_B6_5)
     replace hf23 := TgF.offR hf23 g48 (no_b ap_hk23_B6_5)
     replace hk27 := hk27.offR g48 (no_b ap_hk27_B6_5)
     replace hf27 := TgF.offR hf27 g48 (no_b ap_hk27_B6_5)
     replace HG := grown_newR HG g48 lo_B6_5
     replace HB6_5 := h48
     refine tl_nil ⟨⟨HB3_2, HB4_3, trivial⟩, ?_⟩
     change wpList _ _ _ _ _ _
     refine tl_sw sv47 r7 (tyVa hsa hpo (.slice bo ms.length bap) rfl) HB7_6 (by first | rfl | simp [kcells, bv_length, zero32_len, hsa.1, hpo.1]) fun w49 g49 h49 => ?_
     replace HB3_2 := rw_st g49 HB3_2 (Ne.symm ne_B7_6_B3_2)
     replace HB4_3 := rw_st g49 HB4_3 (Ne.symm ne_B7_6_B4_3)
     replace HB5_4 := rw_st g49 HB5_4 (Ne.symm ne_B7_6_B5_4)
     replace HB6_5 := rw_st g49 HB6_5 (Ne.symm ne_B7_6_B6_5)
     replace HB9_9 := rw_st g49 HB9_9 ne_B9_9_B7_6
     replace HB10_10 := rw_st g49 HB10_10 ne_B10_10_B7_6
     replace ha := ha.offR g49 (no_b ap_ha_B7_6)
     replace hb := hb.offR g49 (no_b ap_hb_B7_6)
     replace hk23 := hk23.offR g49 (no_b ap_hk23_B7_6)
     replace hf23 := TgF.offR hf23 g49 (no_b ap_hk23_B7_6)
     replace hk27 := hk27.offR g49 (no_b ap_hk27_B7_6)
     replace hf27 := TgF.offR hf27 g49 (no_b ap_hk27_B7_6)
     replace HG := grown_newR HG g49 lo_B7_6
     replace HB7_6 := h49
     refine tl_nil ⟨⟨HB3_2, HB4_3, trivial⟩, ?_⟩
     change wpList _ _ _ _ _ _
     refine tl_as (v := .bool true) sv47 r6 fun a50 sv50 => ?_
     refine tl_nil ⟨⟨HB3_2, HB4_3, trivial⟩, ?_⟩
     refine NoPanic.normal ?_
     refine k44 _ _ ?_
     refine wp_ret ?_
     repeat refine then_ret ?_
     refine cx_ret (fn := Try.f50) sv50 (res_cct (p := 6) (q := 7) (s := 8) Try.results50 sv50 rfl rfl rfl rfl rfl rfl (tyVa hsa hpo (.slice ao ks.length cap) rfl) (tyVa hsa hpo (.slice bo ms.length bap) rfl) HB6_5 HB7_6) ?_
     exact (stpV_no hr h0).symm ▸ ⟨ao, cap, ks, bo, bap, ms, rfl, hm, hm2, ha, hb, fun k hk => .inl hk, fun k hk => .inl hk, HG⟩
 · rw [h, if_neg (show ¬ ((1 : Nat) : Int) = 0 by decide), if_pos (show ((1 : Nat) : Int) = 1 from rfl)] at hrr
   obtain ⟨q, hq⟩ : ∃ q, keyO P O c.a = q := ⟨_, rfl⟩
   have hqd : Dg q.1 := by rw [← hq, ← hm]; exact keyO_dg ha.noks
   refine wp_region_lit ?_
   refine sx_hv sv16 1 [(21, .bool false)]
     ⟨ybc r6 (fun _ => rn_eql (by rw [h]; rfl)), trivial⟩ fun a51 w51 g51 sv51 => ?_
   refine tl_as (v := .bool false) sv51 r6 fun a52 sv52 => ?_
   refine tl_nil ?_
   refine k18 _ _ ?_
   refine cx_ifF sv52 rfl rfl ?_
   refine wp_seq_k fun K53 k53 => ?_
   refine wp_region_lit ?_
   refine sx_hv sv52 1 [(39, .bool true)]
     ⟨ybc r6 (fun _ => rn_eql (by rw [h]; rfl)), trivial⟩ fun a54 w54 g54 sv54 => ?_
   have gc54 := grown_trans g51 g54
   refine tl_as (v := .bool true) sv54 r6 fun a55 sv55 => ?_
   refine tl_nil ?_
   refine k53 _ _ ?_
   refine cx_ifT sv55 rfl rfl ?_
   refine wp_seq_k fun K56 k56 => ?_
   replace HB3_2 := rw_kn gc54 HB3_2
   replace HB4_3 := rw_kn gc54 HB4_3
   replace HB5_4 := rw_kn gc54 HB5_4
   replace HB6_5 := rw_kn gc54 HB6_5
   replace HB7_6 := rw_kn gc54 HB7_6
   replace HB9_9 := rw_kn gc54 HB9_9
   replace HB10_10 := rw_kn gc54 HB10_10
   replace ha := ha.kn gc54
   replace hb := hb.kn gc54
   replace HG := grown_trans HG gc54
   refine rx_tail (sv55.st w54) (by kernel_rfl) 11 [(41, Sp.is (vval sa po (.slice ao ks.length cap))), (42, Sp.is (pk B5_4 1)), (43, Sp.is (.int .i64 c.o)), (44, Sp.is (dval O)), (45, Sp.is (pk B5_4 2)), (46, Sp.is (.int .i64 c.a)), (47, Sp.is (.tuple #[dval q.1, .int .i64 q.2])), (40, Sp.is (.tuple #[dval q.1, .int .i64 q.2])), (48, Sp.is (dval q.1)), (49, Sp.is (.int .i64 q.2)), (13, Sp.new w54.heap.size ((bv zero32)) 29)] rfl (by kernel_rfl) (by kernel_rfl) (by kernel_rfl) [9] (by kernel_rfl)
     ⟨yl r6 (tyVa hsa hpo (.slice ao ks.length cap) rfl) HB3_2, yf r6 (fun _ => by kernel_rfl), yp (i := 1) r6 (tyIntV c.o) HB5_4 rfl rfl, ox_call (Sp.is (dval O)) [.int .i64 c.o] rfl rfl trivial ⟨(oy rfl rfl), trivial⟩ (is_on fun W g => hO ▸ owner_4 c.o W) (fun _ _ h => h) (enter_of Try.func51 (by kernel_rfl) rfl), yf r6 (fun _ => by kernel_rfl), yp (i := 2) r6 (tyInt64V c.a) HB5_4 rfl rfl, ox_call (Sp.is (.tuple #[dval q.1, .int .i64 q.2])) [vval sa po (.slice ao ks.length cap), dval O, .int .i64 c.a] rfl rfl trivial ⟨(oy rfl rfl), (oy rfl rfl), (oy rfl rfl), trivial⟩ (is_on fun W g => key_B hsa hpo hOd (ha.kn g) hm hq) (fun _ _ h => h) (enter_of Try.func39 (by kernel_rfl) rfl), ym r5, ox_extract rfl rfl rfl trivial (fun _ _ h => ⟨_, _, h, rfl, rfl⟩), ox_extract rfl rfl rfl trivial (fun _ _ h => ⟨_, _, h, rfl, rfl⟩), ox_alloc rfl trivial (Nat.le_refl _) (fun a w => by kernel_rfl) (fun _ _ h => h), trivial⟩ ⟨fun o ho => by obtain rfl := Option.some.inj ho; exact px_extract rfl rfl rfl trivial (fun _ _ h => ⟨_, _, h, rfl, rfl⟩), trivial⟩
     [13] (by kernel_rfl) ⟨Sp.new_lt, trivial⟩ ⟨.inl rfl, .inl rfl, .inl rfl, .inl rfl, .inl rfl, .inl rfl, .inl rfl, .inl rfl, .inl rfl, .inl rfl, .inr ⟨rfl, ((bv zero32)).toArray, 29, fun a w => by kernel_rfl⟩, trivial⟩ (by kernel_rfl) fun a57 w57 g57 st57 nd57 => ?_
   obtain ⟨hn57, hd57, e57_41, e57_42, e57_43, e57_44, e57_45, e57_46, e57_47, e57_40, e57_48, e57_49, e57_13, e57_38, e57_39, e57_20, e57_21, e57_17, e57_18, e57_19, e57_12, e57_11, e57_10, e57_9, e57_8, e57_7, e57_6, e57_5, e57_4, e57_3, e57_0, e57_1, e57_2, -⟩ := st57
   obtain ⟨B13_57, e57_13q, ge_B13_57, HB13_57⟩ := e57_13
   have ne_B13_57_B3_2 := nh_ne HB3_2 ge_B13_57
   have ne_B13_57_B4_3 := nh_ne HB4_3 ge_B13_57
   have ne_B13_57_B5_4 := nh_ne HB5_4 ge_B13_57
   have ne_B13_57_B6_5 := nh_ne HB6_5 ge_B13_57
   have ne_B13_57_B7_6 := nh_ne HB7_6 ge_B13_57
   have ne_B13_57_B9_9 := nh_ne HB9_9 ge_B13_57
   have ne_B13_57_B10_10 := nh_ne HB10_10 ge_B13_57
   have lo_B13_57 := nh_lo HG ge_B13_57
   have ap_ha_B13_57 := nh_ap (ha.lt) ge_B13_57
   have ap_hb_B13_57 := nh_ap (hb.lt) ge_B13_57
   replace HB3_2 := rw_kn g57 HB3_2
   replace HB4_3 := rw_kn g57 HB4_3
   replace HB5_4 := rw_kn g57 HB5_4
   replace HB6_5 := rw_kn g57 HB6_5
   replace HB7_6 := rw_kn g57 HB7_6
   replace HB9_9 := rw_kn g57 HB9_9
   replace HB10_10 := rw_kn g57 HB10_10
   replace ha := ha.kn g57
   replace hb := hb.kn g57
   replace HG := grown_trans HG g57
   have sv57 : Sv 127 [] [(38, _), (39, _), (20, _), (21, _), (17, _), (18, _), (19, _), (12, _), (11, _), (10, _), (9, _), (8, _), (7, _), (6, _), (5, _), (4, _), (3, _), (0, _), (1, _), (2, _), (48, _), (49, _), (13, _)] a57 := ⟨hn57, hd57, e57_38, e57_39, e57_20, e57_21, e57_17, e57_18, e57_19, e57_12, e57_11, e57_10, e57_9, e57_8, e57_7, e57_6, e57_5, e57_4, e57_3, e57_0, e57_1, e57_2, e57_48, e57_49, e57_13q, trivial⟩
   refine tl_sw sv57 r7 (tyD q.1 hqd.1) HB13_57 (lenD hqd) fun w58 g58 h58 => ?_
   replace HB3_2 := rw_st g58 HB3_2 (Ne.symm ne_B13_57_B3_2)
   replace HB4_3 := rw_st g58 HB4_3 (Ne.symm ne_B13_57_B4_3)
   replace HB5_4 := rw_st g58 HB5_4 (Ne.symm ne_B13_57_B5_4)
   replace HB6_5 := rw_st g58 HB6_5 (Ne.symm ne_B13_57_B6_5)
   replace HB7_6 := rw_st g58 HB7_6 (Ne.symm ne_B13_57_B7_6)
   replace HB9_9 := rw_st g58 HB9_9 (Ne.symm ne_B13_57_B9_9)
   replace HB10_10 := rw_st g58 HB10_10 (Ne.symm ne_B13_57_B10_10)
   replace ha := ha.offR g58 (no_b ap_ha_B13_57)
   replace hb := hb.offR g58 (no_b ap_hb_B13_57)
   replace HG := grown_newR HG g58 lo_B13_57
   replace HB13_57 := h58
   refine tl_as (v := .int .i64 q.2) sv57 r6 fun a59 sv59 => ?_
   refine tl_nil ?_
   refine k56 _ _ ?_
   refine wp_seq_k fun K60 k60 => ?_
   refine rx_tail (sv59.st w58) (by kernel_rfl) 11 [(51, Sp.is (vval sa po (.slice bo ms.length bap))), (52, Sp.is (pk B5_4 1)), (53, Sp.is (.int .i64 c.o)), (54, Sp.is (dval O)), (55, Sp.is (pk B5_4 2)), (56, Sp.is (.int .i64 c.a)), (57, Sp.is (.tuple #[dval q.1, .int .i64 q.2])), (50, Sp.is (.tuple #[dval q.1, .int .i64 q.2])), (58, Sp.is (dval q.1)), (59, Sp.is (.int .i64 q.2)), (15, Sp.new w58.heap.size ((bv zero32)) 29)] rfl (by kernel_rfl) (by kernel_rfl) (by kernel_rfl) [9] (by kernel_rfl)
     ⟨yl r6 (tyVa hsa hpo (.slice bo ms.length bap) rfl) HB4_3, yf r6 (fun _ => by kernel_rfl), yp (i := 1) r6 (tyIntV c.o) HB5_4 rfl rfl, ox_call (Sp.is (dval O)) [.int .i64 c.o] rfl rfl trivial ⟨(oy rfl rfl), trivial⟩ (is_on fun W g => hO ▸ owner_4 c.o W) (fun _ _ h => h) (enter_of Try.func51 (by kernel_rfl) rfl), yf r6 (fun _ => by kernel_rfl), yp (i := 2) r6 (tyInt64V c.a) HB5_4 rfl rfl, ox_call (Sp.is (.tuple #[dval q.1, .int .i64 q.2])) [vval sa po (.slice bo ms.length bap), dval O, .int .i64 c.a] rfl rfl trivial ⟨(oy rfl rfl), (oy rfl rfl), (oy rfl rfl), trivial⟩ (is_on fun W g => rkey_B hsa hpo hOd (hb.kn g) hm2 hq) (fun _ _ h => h) (enter_of Try.func40 (by kernel_rfl) rfl), ym r5, ox_extract rfl rfl rfl trivial (fun _ _ h => ⟨_, _, h, rfl, rfl⟩), ox_extract rfl rfl rfl trivial (fun _ _ h => ⟨_, _, h, rfl, rfl⟩), ox_alloc rfl trivial (Nat.le_refl _) (fun a w => by kernel_rfl) (fun _ _ h => h), trivial⟩ ⟨fun o ho => by obtain rfl := Option.some.inj ho; exact px_extract rfl rfl rfl trivial (fun _ _ h => ⟨_, _, h, rfl, rfl⟩), trivial⟩
     [15] (by kernel_rfl) ⟨Sp.new_lt, trivial⟩ ⟨.inl rfl, .inl rfl, .inl rfl, .inl rfl, .inl rfl, .inl rfl, .inl rfl, .inl rfl, .inl rfl, .inl rfl, .inr ⟨rfl, ((bv zero32)).toArray, 29, fun a w => by kernel_rfl⟩, trivial⟩ (by kernel_rfl) fun a61 w61 g61 st61 nd61 => ?_
   obtain ⟨hn61, hd61, e61_51, e61_52, e61_53, e61_54, e61_55, e61_56, e61_57, e61_50, e61_58, e61_59, e61_15, e61_14, e61_38, e61_39, e61_20, e61_21, e61_17, e61_18, e61_19, e61_12, e61_11, e61_10, e61_9, e61_8, e61_7, e61_6, e61_5, e61_4, e61_3, e61_0, e61_1, e61_2, e61_48, e61_49, e61_13, -⟩ := st61
   obtain ⟨B15_61, e61_15q, ge_B15_61, HB15_61⟩ := e61_15
   have ne_B15_61_B3_2 := nh_ne HB3_2 ge_B15_61
   have ne_B15_61_B4_3 := nh_ne HB4_3 ge_B15_61
   have ne_B15_61_B5_4 := nh_ne HB5_4 ge_B15_61
   have ne_B15_61_B6_5 := nh_ne HB6_5 ge_B15_61
   have ne_B15_61_B7_6 := nh_ne HB7_6 ge_B15_61
   have ne_B15_61_B9_9 := nh_ne HB9_9 ge_B15_61
   have ne_B15_61_B10_10 := nh_ne HB10_10 ge_B15_61
   have ne_B15_61_B13_57 := nh_ne HB13_57 ge_B15_61
   have lo_B15_61 := nh_lo HG ge_B15_61
   have ap_ha_B15_61 := nh_ap (ha.lt) ge_B15_61
   have ap_hb_B15_61 := nh_ap (hb.lt) ge_B15_61
   replace HB3_2 := rw_kn g61 HB3_2
   replace HB4_3 := rw_kn g61 HB4_3
   replace HB5_4 := rw_kn g61 HB5_4
   replace HB6_5 := rw_kn g61 HB6_5
   replace HB7_6 := rw_kn g61 HB7_6
   replace HB9_9 := rw_kn g61 HB9_9
   replace HB10_10 := rw_kn g61 HB10_10
   replace HB13_57 := rw_kn g61 HB13_57
   replace ha := ha.kn g61
   replace hb := hb.kn g61
   replace HG := grown_trans HG g61
   have sv61 : Sv 127 [] [(14, _), (38, _), (39, _), (20, _), (21, _), (17, _), (18, _), (19, _), (12, _), (11, _), (10, _), (9, _), (8, _), (7, _), (6, _), (5, _), (4, _), (3, _), (0, _), (1, _), (2, _), (48, _), (49, _), (13, _), (58, _), (59, _), (15, _)] a61 := ⟨hn61, hd61, e61_14, e61_38, e61_39, e61_20, e61_21, e61_17, e61_18, e61_19, e61_12, e61_11, e61_10, e61_9, e61_8, e61_7, e61_6, e61_5, e61_4, e61_3, e61_0, e61_1, e61_2, e61_48, e61_49, e61_13, e61_58, e61_59, e61_15q, trivial⟩
   refine tl_sw sv61 r7 (tyD q.1 hqd.1) HB15_61 (lenD hqd) fun w62 g62 h62 => ?_
   replace HB3_2 := rw_st g62 HB3_2 (Ne.symm ne_B15_61_B3_2)
   replace HB4_3 := rw_st g62 HB4_3 (Ne.symm ne_B15_61_B4_3)
   replace HB5_4 := rw_st g62 HB5_4 (Ne.symm ne_B15_61_B5_4)
   replace HB6_5 := rw_st g62 HB6_5 (Ne.symm ne_B15_61_B6_5)
   replace HB7_6 := rw_st g62 HB7_6 (Ne.symm ne_B15_61_B7_6)
   replace HB9_9 := rw_st g62 HB9_9 (Ne.symm ne_B15_61_B9_9)
   replace HB10_10 := rw_st g62 HB10_10 (Ne.symm ne_B15_61_B10_10)
   replace HB13_57 := rw_st g62 HB13_57 (Ne.symm ne_B15_61_B13_57)
   replace ha := ha.offR g62 (no_b ap_ha_B15_61)
   replace hb := hb.offR g62 (no_b ap_hb_B15_61)
   replace HG := grown_newR HG g62 lo_B15_61
   replace HB15_61 := h62
   refine tl_as (v := .int .i64 q.2) sv61 r6 fun a63 sv63 => ?_
   refine tl_nil ?_
   refine k60 _ _ ?_
   refine wp_seq_k fun K64 k64 => ?_
   have gd65 := grown_drew w62
   replace HB3_2 := rw_kn gd65 HB3_2
   replace HB4_3 := rw_kn gd65 HB4_3
   replace HB5_4 := rw_kn gd65 HB5_4
   replace HB6_5 := rw_kn gd65 HB6_5
   replace HB7_6 := rw_kn gd65 HB7_6
   replace HB9_9 := rw_kn gd65 HB9_9
   replace HB10_10 := rw_kn gd65 HB10_10
   replace HB13_57 := rw_kn gd65 HB13_57
   replace HB15_61 := rw_kn gd65 HB15_61
   replace ha := ha.kn gd65
   replace hb := hb.kn gd65
   replace HG := grown_trans HG gd65
   refine wp_region_noPanic ?_
   refine region_script (fun w' => w'.heap[B3_2]? = some (.cells ([bv sa, bv po, [.slice ao ks.length cap]].flatten).toArray 58 (0, 0)) ∧ w'.heap[B4_3]? = some (.cells ([bv sa, bv po, [.slice bo ms.length bap]].flatten).toArray 58 (0, 0)) ∧ w'.heap[B13_57]? = some (.cells (bv q.1).toArray 29 (0, 0)) ∧ w'.heap[B15_61]? = some (.cells (bv q.1).toArray 29 (0, 0)) ∧ True) [0, 1, 2, 3, 4, 5, 6, 7, 8, 9] [10, 11, 12] (by kernel_rfl) (by kernel_rfl) (fun _ _ d _ _ h => by cases d <;> exact h) rfl (by kernel_rfl) ⟨HB3_2, HB4_3, HB13_57, HB15_61, trivial⟩ ?_
   simp only [List.filterMap_cons, List.filterMap_nil, List.getElem?_toArray, List.getElem?_cons_succ, List.getElem?_cons_zero]
   refine tk_load sv63 rfl rfl rfl rfl ⟨rfl, rfl⟩ (fun w hS => loadsAt (tyVa hsa hpo (.slice ao ks.length cap) rfl) (rangeAt_row hS.1)) fun a66 sv66 => ?_
   refine tk_load sv66 rfl rfl rfl rfl ⟨rfl, rfl⟩ (fun w hS => loadsAt (tyVa hsa hpo (.slice bo ms.length bap) rfl) (rangeAt_row hS.2.1)) fun a67 sv67 => ?_
   refine tk_load sv67 rfl rfl rfl rfl ⟨rfl, rfl⟩ (fun w hS => loadsAt (tyD q.1 hqd.1) (rangeAt_row hS.2.2.1)) fun a68 sv68 => ?_
   refine tk_load sv68 rfl rfl rfl rfl ⟨rfl, rfl⟩ (fun w hS => loadsAt (tyD q.1 hqd.1) (rangeAt_row hS.2.2.2.1)) fun a69 sv69 => ?_
   refine tk_px (v := .bool true) w62.drew sv69 rfl (by kernel_rfl) (px_bin rfl rfl trivial (oy rfl rfl) (oy rfl rfl) (fun _ => by simpa using (dig_eqb hqd hqd _ _ _).1) (fun _ => rfl)) fun a70 sv70 => ?_
   refine tk_px (v := .bool true) w62.drew sv70 rfl (by kernel_rfl) (px_move 64 65 (.inl rfl) rfl rfl trivial (fun _ _ h => h)) fun a71 sv71 => ?_
   refine tk_px (v := .int .i64 q.2) w62.drew sv71 rfl (by kernel_rfl) (px_move 14 66 (.inl rfl) rfl rfl (gy rfl rfl rfl) (fun _ _ h => h)) fun a72 sv72 => ?_
   refine tk_px (v := .int .i64 q.2) w62.drew sv72 rfl (by kernel_rfl) (px_move 16 67 (.inl rfl) rfl rfl (gy rfl rfl rfl) (fun _ _ h => h)) fun a73 sv73 => ?_
   refine tk_px (v := .bool true) w62.drew sv73 rfl (by kernel_rfl) (px_bin rfl rfl (gy rfl rfl rfl) (oy rfl rfl) (oy rfl rfl) (fun _ => rn_eql (by simp)) (fun _ => rfl)) fun a74 sv74 => ?_
   refine tk_px (v := .bool true) w62.drew sv74 rfl (by kernel_rfl) (px_pick rfl rfl trivial (oy rfl rfl) (oy rfl rfl) (fun _ => rfl)) fun a75 sv75 => ?_
   have sv76 : Sv 127 [] [(69, _), (61, _), (60, _), (38, _), (39, _), (20, _), (21, _), (17, _), (18, _), (19, _), (12, _), (11, _), (10, _), (9, _), (8, _), (7, _), (6, _), (5, _), (4, _), (3, _), (0, _), (1, _), (2, _), (48, _), (49, _), (13, _), (58, _), (59, _), (15, _)] a75 := sv75.dl [68, 67, 66, 65, 64, 63, 62, 16, 14]
   change wpList _ _ _ _ _ _
   refine tl_sw sv76 r7 (tyVa hsa hpo (.slice ao ks.length cap) rfl) HB6_5 (by first | rfl | simp [kcells, bv_length, zero32_len, hsa.1, hpo.1]) fun w77 g77 h77 => ?_
   replace HB3_2 := rw_st g77 HB3_2 (Ne.symm ne_B6_5_B3_2)
   replace HB4_3 := rw_st g77 HB4_3 (Ne.symm ne_B6_5_B4_3)
   replace HB5_4 := rw_st g77 HB5_4 (Ne.symm ne_B6_5_B5_4)
   replace HB7_6 := rw_st g77 HB7_6 ne_B7_6_B6_5
   replace HB9_9 := rw_st g77 HB9_9 ne_B9_9_B6_5
   replace HB10_10 := rw_st g77 HB10_10 ne_B10_10_B6_5
   replace HB13_57 := rw_st g77 HB13_57 ne_B13_57_B6_5
   replace HB15_61 := rw_st g77 HB15_61 ne_B15_61_B6_5
   replace ha := ha.offR g77 (no_b ap_ha_B6_5)
   replace hb := hb.offR g77 (no_b ap_hb_B6_5)
   replace HG := grown_newR HG g77 lo_B6_5
   replace HB6_5 := h77
   refine tl_nil ⟨⟨HB3_2, HB4_3, HB13_57, HB15_61, trivial⟩, ?_⟩
   change wpList _ _ _ _ _ _
   refine tl_sw sv76 r7 (tyVa hsa hpo (.slice bo ms.length bap) rfl) HB7_6 (by first | rfl | simp [kcells, bv_length, zero32_len, hsa.1, hpo.1]) fun w78 g78 h78 => ?_
   replace HB3_2 := rw_st g78 HB3_2 (Ne.symm ne_B7_6_B3_2)
   replace HB4_3 := rw_st g78 HB4_3 (Ne.symm ne_B7_6_B4_3)
   replace HB5_4 := rw_st g78 HB5_4 (Ne.symm ne_B7_6_B5_4)
   replace HB6_5 := rw_st g78 HB6_5 (Ne.symm ne_B7_6_B6_5)
   replace HB9_9 := rw_st g78 HB9_9 ne_B9_9_B7_6
   replace HB10_10 := rw_st g78 HB10_10 ne_B10_10_B7_6
   replace HB13_57 := rw_st g78 HB13_57 ne_B13_57_B7_6
   replace HB15_61 := rw_st g78 HB15_61 ne_B15_61_B7_6
   replace ha := ha.offR g78 (no_b ap_ha_B7_6)
   replace hb := hb.offR g78 (no_b ap_hb_B7_6)
   replace HG := grown_newR HG g78 lo_B7_6
   replace HB7_6 := h78
   refine tl_nil ⟨⟨HB3_2, HB4_3, HB13_57, HB15_61, trivial⟩, ?_⟩
   change wpList _ _ _ _ _ _
   refine tl_as (v := .bool true) sv76 r6 fun a79 sv79 => ?_
   refine tl_nil ⟨⟨HB3_2, HB4_3, HB13_57, HB15_61, trivial⟩, ?_⟩
   refine NoPanic.normal ?_
   refine k64 _ _ ?_
   refine wp_ret ?_
   repeat refine then_ret ?_
   refine r17 _ _ ?_
   repeat refine then_ret ?_
   refine cx_ret (fn := Try.f50) sv79 (res_cct (p := 6) (q := 7) (s := 8) Try.results50 sv79 rfl rfl rfl rfl rfl rfl (tyVa hsa hpo (.slice ao ks.length cap) rfl) (tyVa hsa hpo (.slice bo ms.length bap) rfl) HB6_5 HB7_6) ?_
   exact (stpV_yes (hr.trans hrr.symm) rfl).symm ▸ ⟨ao, cap, ks, bo, bap, ms, rfl, hm, hm2, ha, hb, fun k hk => .inl hk, fun k hk => .inl hk, HG⟩
 · rw [h, if_neg (show ¬ ((2 : Nat) : Int) = 0 by decide), if_neg (show ¬ ((2 : Nat) : Int) = 1 by decide), if_pos (show ((2 : Nat) : Int) = 2 from rfl)] at hrr
   have hdg_r : VDg r.1 := hrr ▸ shrO_dg ⟨hsa, hpo⟩
   refine wp_region_lit ?_
   refine sx_hv sv16 1 [(21, .bool false)]
     ⟨ybc r6 (fun _ => rn_eql (by rw [h]; rfl)), trivial⟩ fun a80 w80 g80 sv80 => ?_
   refine tl_as (v := .bool false) sv80 r6 fun a81 sv81 => ?_
   refine tl_nil ?_
   refine k18 _ _ ?_
   refine cx_ifF sv81 rfl rfl ?_
   refine wp_seq_k fun K82 k82 => ?_
   refine wp_region_lit ?_
   refine sx_hv sv81 1 [(39, .bool false)]
     ⟨ybc r6 (fun _ => rn_eql (by rw [h]; rfl)), trivial⟩ fun a83 w83 g83 sv83 => ?_
   have gc83 := grown_trans g80 g83
   refine tl_as (v := .bool false) sv83 r6 fun a84 sv84 => ?_
   refine tl_nil ?_
   refine k82 _ _ ?_
   refine cx_ifF sv84 rfl rfl ?_
   refine wp_seq_k fun K85 k85 => ?_
   refine wp_region_lit ?_
   refine sx_hv sv84 1 [(71, .bool true)]
     ⟨ybc r6 (fun _ => rn_eql (by rw [h]; rfl)), trivial⟩ fun a86 w86 g86 sv86 => ?_
   have gc86 := grown_trans gc83 g86
   refine tl_as (v := .bool true) sv86 r6 fun a87 sv87 => ?_
   refine tl_nil ?_
   refine k85 _ _ ?_
   refine cx_ifT sv87 rfl rfl ?_
   refine wp_seq_k fun K88 k88 => ?_
   replace HB3_2 := rw_kn gc86 HB3_2
   replace HB4_3 := rw_kn gc86 HB4_3
   replace HB5_4 := rw_kn gc86 HB5_4
   replace HB6_5 := rw_kn gc86 HB6_5
   replace HB7_6 := rw_kn gc86 HB7_6
   replace HB9_9 := rw_kn gc86 HB9_9
   replace HB10_10 := rw_kn gc86 HB10_10
   replace ha := ha.kn gc86
   replace hb := hb.kn gc86
   replace HG := grown_trans HG gc86
   refine rx_tail (sv87.st w86) (by kernel_rfl) 10 [(73, Sp.is (vval sa po (.slice ao ks.length cap))), (74, Sp.is (pk B5_4 1)), (75, Sp.is (.int .i64 c.o)), (76, Sp.is (dval O)), (77, Sp.is (pk B5_4 2)), (78, Sp.is (.int .i64 c.a)), (79, Sp.vt r ((fun _ => False))), (72, Sp.vt r ((fun _ => False))), (80, Sp.vv r.1 ((fun _ => False))), (81, Sp.is (.int .i64 r.2))] rfl (by kernel_rfl) (by kernel_rfl) (by kernel_rfl) [9] (by kernel_rfl)
     ⟨yl r6 (tyVa hsa hpo (.slice ao ks.length cap) rfl) HB3_2, yf r6 (fun _ => by kernel_rfl), yp (i := 1) r6 (tyIntV c.o) HB5_4 rfl rfl, ox_call (Sp.is (dval O)) [.int .i64 c.o] rfl rfl trivial ⟨(oy rfl rfl), trivial⟩ (is_on fun W g => hO ▸ owner_4 c.o W) (fun _ _ h => h) (enter_of Try.func51 (by kernel_rfl) rfl), yf r6 (fun _ => by kernel_rfl), yp (i := 2) r6 (tyInt64V c.a) HB5_4 rfl rfl, ox_call (Sp.vt r ((fun _ => False))) [vval sa po (.slice ao ks.length cap), dval O, .int .i64 c.a] rfl rfl trivial ⟨(oy rfl rfl), (oy rfl rfl), (oy rfl rfl), trivial⟩ (shr_on hsa hpo hOd ha hm hrr) (fun _ _ h => h) (enter_of Try.func42 (by kernel_rfl) rfl), ym r5, ox_extract rfl rfl rfl trivial (fun w u h => vt_vault w u h), ox_extract rfl rfl rfl trivial (fun w u h => vt_err w u h), trivial⟩ ⟨fun o ho => by obtain rfl := Option.some.inj ho; exact px_extract rfl rfl rfl trivial (fun w u h => vt_err w u h), trivial⟩
     [] (by kernel_rfl) trivial ⟨.inl rfl, .inl rfl, .inl rfl, .inl rfl, .inl rfl, .inl rfl, .inl rfl, .inl rfl, .inl rfl, .inl rfl, trivial⟩ (by kernel_rfl) fun a89 w89 g89 st89 nd89 => ?_
   obtain ⟨hn89, hd89, e89_73, e89_74, e89_75, e89_76, e89_77, e89_78, e89_79, e89_72, e89_80, e89_81, e89_70, e89_71, e89_38, e89_39, e89_20, e89_21, e89_17, e89_18, e89_19, e89_12, e89_11, e89_10, e89_9, e89_8, e89_7, e89_6, e89_5, e89_4, e89_3, e89_0, e89_1, e89_2, -⟩ := st89
   obtain ⟨ao90, cap90, ks90, e89_80q, hp90, hk90, hf90⟩ := e89_80
   replace HB3_2 := rw_kn g89 HB3_2
   replace HB4_3 := rw_kn g89 HB4_3
   replace HB5_4 := rw_kn g89 HB5_4
   replace HB6_5 := rw_kn g89 HB6_5
   replace HB7_6 := rw_kn g89 HB7_6
   replace HB9_9 := rw_kn g89 HB9_9
   replace HB10_10 := rw_kn g89 HB10_10
   replace ha := ha.kn g89
   replace hb := hb.kn g89
   replace HG := grown_trans HG g89
   have ap_hk90_B3_2 := vt_ap0 hf90 HB3_2 (by decide)
   have ap_hk90_B4_3 := vt_ap0 hf90 HB4_3 (by decide)
   have ap_hk90_B5_4 := vt_ap0 hf90 HB5_4 (by decide)
   have ap_hk90_B6_5 := vt_ap0 hf90 HB6_5 (by decide)
   have ap_hk90_B7_6 := vt_ap0 hf90 HB7_6 (by decide)
   have ap_hk90_B9_9 := vt_ap0 hf90 HB9_9 (by decide)
   have ap_hk90_B10_10 := vt_ap0 hf90 HB10_10 (by decide)
   have sv89 : Sv 127 [] [(70, _), (71, _), (38, _), (39, _), (20, _), (21, _), (17, _), (18, _), (19, _), (12, _), (11, _), (10, _), (9, _), (8, _), (7, _), (6, _), (5, _), (4, _), (3, _), (0, _), (1, _), (2, _), (80, _), (81, _)] a89 := ⟨hn89, hd89, e89_70, e89_71, e89_38, e89_39, e89_20, e89_21, e89_17, e89_18, e89_19, e89_12, e89_11, e89_10, e89_9, e89_8, e89_7, e89_6, e89_5, e89_4, e89_3, e89_0, e89_1, e89_2, e89_80q, e89_81, trivial⟩
   refine tl_sw sv89 r7 (tyVa hdg_r.1 hdg_r.2 (.slice ao90 ks90.length cap90) rfl) HB9_9 (by first | rfl | simp [kcells, bv_length, zero32_len, hdg_r.1.1, hdg_r.2.1]) fun w91 g91 h91 => ?_
   replace HB3_2 := rw_st g91 HB3_2 (Ne.symm ne_B9_9_B3_2)
   replace HB4_3 := rw_st g91 HB4_3 (Ne.symm ne_B9_9_B4_3)
   replace HB5_4 := rw_st g91 HB5_4 (Ne.symm ne_B9_9_B5_4)
   replace HB6_5 := rw_st g91 HB6_5 (Ne.symm ne_B9_9_B6_5)
   replace HB7_6 := rw_st g91 HB7_6 (Ne.symm ne_B9_9_B7_6)
   replace HB10_10 := rw_st g91 HB10_10 ne_B10_10_B9_9
   replace ha := ha.offR g91 (no_b ap_ha_B9_9)
   replace hb := hb.offR g91 (no_b ap_hb_B9_9)
   replace hk90 := hk90.offR g91 (no_b ap_hk90_B9_9)
   replace hf90 := TgF.offR hf90 g91 (no_b ap_hk90_B9_9)
   replace HG := grown_newR HG g91 lo_B9_9
   replace HB9_9 := h91
   refine tl_as (v := .int .i64 r.2) sv89 r6 fun a92 sv92 => ?_
   refine tl_nil ?_
   refine k88 _ _ ?_
   refine rx_tail (sv92.st w91) (by kernel_rfl) 10 [(83, Sp.is (vval sa po (.slice bo ms.length bap))), (84, Sp.is (pk B5_4 1)), (85, Sp.is (.int .i64 c.o)), (86, Sp.is (dval O)), (87, Sp.is (pk B5_4 2)), (88, Sp.is (.int .i64 c.a)), (89, Sp.vt r (fpK (.slice bo ms.length bap) ms)), (82, Sp.vt r (fpK (.slice bo ms.length bap) ms)), (90, Sp.vv r.1 (fpK (.slice bo ms.length bap) ms)), (91, Sp.is (.int .i64 r.2))] rfl (by kernel_rfl) (by kernel_rfl) (by kernel_rfl) [9] (by kernel_rfl)
     ⟨yl r6 (tyVa hsa hpo (.slice bo ms.length bap) rfl) HB4_3, yf r6 (fun _ => by kernel_rfl), yp (i := 1) r6 (tyIntV c.o) HB5_4 rfl rfl, ox_call (Sp.is (dval O)) [.int .i64 c.o] rfl rfl trivial ⟨(oy rfl rfl), trivial⟩ (is_on fun W g => hO ▸ owner_4 c.o W) (fun _ _ h => h) (enter_of Try.func51 (by kernel_rfl) rfl), yf r6 (fun _ => by kernel_rfl), yp (i := 2) r6 (tyInt64V c.a) HB5_4 rfl rfl, ox_call (Sp.vt r (fpK (.slice bo ms.length bap) ms)) [vval sa po (.slice bo ms.length bap), dval O, .int .i64 c.a] rfl rfl trivial ⟨(oy rfl rfl), (oy rfl rfl), (oy rfl rfl), trivial⟩ (rshr_on hsa hpo hOd hb hm2 hrr) (fun _ _ h => h) (enter_of Try.func43 (by kernel_rfl) rfl), ym r5, ox_extract rfl rfl rfl trivial (fun w u h => vt_vault w u h), ox_extract rfl rfl rfl trivial (fun w u h => vt_err w u h), trivial⟩ ⟨fun o ho => by obtain rfl := Option.some.inj ho; exact px_extract rfl rfl rfl trivial (fun w u h => vt_err w u h), trivial⟩
     [] (by kernel_rfl) trivial ⟨.inl rfl, .inl rfl, .inl rfl, .inl rfl, .inl rfl, .inl rfl, .inl rfl, .inl rfl, .inl rfl, .inl rfl, trivial⟩ (by kernel_rfl) fun a93 w93 g93 st93 nd93 => ?_
   obtain ⟨hn93, hd93, e93_83, e93_84, e93_85, e93_86, e93_87, e93_88, e93_89, e93_82, e93_90, e93_91, e93_11, e93_70, e93_71, e93_38, e93_39, e93_20, e93_21, e93_17, e93_18, e93_19, e93_12, e93_10, e93_9, e93_8, e93_7, e93_6, e93_5, e93_4, e93_3, e93_0, e93_1, e93_2, e93_80, e93_81, -⟩ := st93
   obtain ⟨ao94, cap94, ks94, e93_90q, hp94, hk94, hf94⟩ := e93_90
   replace HB3_2 := rw_kn g93 HB3_2
   replace HB4_3 := rw_kn g93 HB4_3
   replace HB5_4 := rw_kn g93 HB5_4
   replace HB6_5 := rw_kn g93 HB6_5
   replace HB7_6 := rw_kn g93 HB7_6
   replace HB9_9 := rw_kn g93 HB9_9
   replace HB10_10 := rw_kn g93 HB10_10
   replace ha := ha.kn g93
   replace hb := hb.kn g93
   replace hk90 := hk90.kn g93
   replace hf90 := TgF.kn hf90 g93
   replace HG := grown_trans HG g93
   have ap_hk94_B3_2 := vt_ap1 hf94 ap_hb_B3_2 HB3_2 (by decide)
   have ap_hk94_B4_3 := vt_ap1 hf94 ap_hb_B4_3 HB4_3 (by decide)
   have ap_hk94_B5_4 := vt_ap1 hf94 ap_hb_B5_4 HB5_4 (by decide)
   have ap_hk94_B6_5 := vt_ap1 hf94 ap_hb_B6_5 HB6_5 (by decide)
   have ap_hk94_B7_6 := vt_ap1 hf94 ap_hb_B7_6 HB7_6 (by decide)
   have ap_hk94_B9_9 := vt_ap1 hf94 ap_hb_B9_9 HB9_9 (by decide)
   have ap_hk94_B10_10 := vt_ap1 hf94 ap_hb_B10_10 HB10_10 (by decide)
   have sv93 : Sv 127 [] [(11, _), (70, _), (71, _), (38, _), (39, _), (20, _), (21, _), (17, _), (18, _), (19, _), (12, _), (10, _), (9, _), (8, _), (7, _), (6, _), (5, _), (4, _), (3, _), (0, _), (1, _), (2, _), (80, _), (81, _), (90, _), (91, _)] a93 := ⟨hn93, hd93, e93_11, e93_70, e93_71, e93_38, e93_39, e93_20, e93_21, e93_17, e93_18, e93_19, e93_12, e93_10, e93_9, e93_8, e93_7, e93_6, e93_5, e93_4, e93_3, e93_0, e93_1, e93_2, e93_80, e93_81, e93_90q, e93_91, trivial⟩
   refine tl_sw sv93 r7 (tyVa hdg_r.1 hdg_r.2 (.slice ao94 ks94.length cap94) rfl) HB10_10 (by first | rfl | simp [kcells, bv_length, zero32_len, hdg_r.1.1, hdg_r.2.1]) fun w95 g95 h95 => ?_
   replace HB3_2 := rw_st g95 HB3_2 (Ne.symm ne_B10_10_B3_2)
   replace HB4_3 := rw_st g95 HB4_3 (Ne.symm ne_B10_10_B4_3)
   replace HB5_4 := rw_st g95 HB5_4 (Ne.symm ne_B10_10_B5_4)
   replace HB6_5 := rw_st g95 HB6_5 (Ne.symm ne_B10_10_B6_5)
   replace HB7_6 := rw_st g95 HB7_6 (Ne.symm ne_B10_10_B7_6)
   replace HB9_9 := rw_st g95 HB9_9 (Ne.symm ne_B10_10_B9_9)
   replace ha := ha.offR g95 (no_b ap_ha_B10_10)
   replace hb := hb.offR g95 (no_b ap_hb_B10_10)
   replace hk90 := hk90.offR g95 (no_b ap_hk90_B10_10)
   replace hf90 := TgF.offR hf90 g95 (no_b ap_hk90_B10_10)
   replace hk94 := hk94.offR g95 (no_b ap_hk94_B10_10)
   replace hf94 := TgF.offR hf94 g95 (no_b ap_hk94_B10_10)
   replace HG := grown_newR HG g95 lo_B10_10
   replace HB10_10 := h95
   refine tl_as (v := .int .i64 r.2) sv93 r6 fun a96 sv96 => ?_
   refine tl_nil ?_
   refine y17 _ _ ?_
   refine k14 _ _ ?_
   refine wp_seq_k fun K97 k97 => ?_
   refine wp_seq_k fun K98 k98 => ?_
   refine wp_region_lit ?_
   refine sx_hv sv96 9 [(110, .int .i64 r.2), (111, .int .i64 r.2), (112, .bool false), (113, .bool false), (114, vval r.1.2.1 r.1.2.2 (.slice ao90 ks90.length cap90)), (115, vval r.1.2.1 r.1.2.2 (.slice ao94 ks94.length cap94)), (116, .bool true), (117, .bool false), (118, .bool false)]
     ⟨ym r5, ym r5, ybt r7 (fun _ => rn_neq (by simp)), ym r5, ox_load rfl rfl (gy rfl rfl rfl) (oy rfl rfl) (fun _ g => loadsAt (tyVa hdg_r.1 hdg_r.2 (.slice ao90 ks90.length cap90) rfl) (rangeAt_row (row_of g HB9_9 (by simp)))) (fun _ => rfl), ox_load rfl rfl (gy rfl rfl rfl) (oy rfl rfl) (fun _ g => loadsAt (tyVa hdg_r.1 hdg_r.2 (.slice ao94 ks94.length cap94) rfl) (rangeAt_row (row_of g HB10_10 (by simp)))) (fun _ => rfl), ox_call (Sp.is (.bool true)) [vval r.1.2.1 r.1.2.2 (.slice ao90 ks90.length cap90), vval r.1.2.1 r.1.2.2 (.slice ao94 ks94.length cap94)] rfl rfl (gy rfl rfl rfl) ⟨(oy rfl rfl), (oy rfl rfl), trivial⟩ (is_on fun W g => samev_walk ks90 ks94 _ _ _ _ _ _ hdg_r.1 hdg_r.2 (hp90.trans hp94.symm) W (hk90.kn g) (hk94.kn g)) (fun _ _ h => h) (enter_of Try.func38 (by kernel_rfl) rfl), ox_un rfl rfl (gy rfl rfl rfl) (oy rfl rfl) (fun _ => rn_not) (fun _ => rfl), ox_pick rfl rfl trivial (oy rfl rfl) (oy rfl rfl) (fun _ => rfl), trivial⟩ fun a99 w99 g99 sv99 => ?_
   refine tl_nil ?_
   refine k98 _ _ ?_
   refine cx_ifF sv99 rfl rfl ?_
   refine wp_skip ?_
   refine k97 _ _ ?_
   refine wp_seq_k fun K100 k100 => ?_
   refine wp_seq_k fun K101 k101 => ?_
   replace HB3_2 := rw_kn g99 HB3_2
   replace HB4_3 := rw_kn g99 HB4_3
   replace HB5_4 := rw_kn g99 HB5_4
   replace HB6_5 := rw_kn g99 HB6_5
   replace HB7_6 := rw_kn g99 HB7_6
   replace HB9_9 := rw_kn g99 HB9_9
   replace HB10_10 := rw_kn g99 HB10_10
   replace ha := ha.kn g99
   replace hb := hb.kn g99
   replace hk90 := hk90.kn g99
   replace hf90 := TgF.kn hf90 g99
   replace hk94 := hk94.kn g99
   replace hf94 := TgF.kn hf94 g99
   replace HG := grown_trans HG g99
   by_cases h0 : r.2 = 0
   · refine wp_region_lit ?_
     refine sx_hv sv99 2 [(121, .int .i64 r.2), (122, .bool false)]
       ⟨ym r5, ybc r6 (fun _ => rn_neq (by rw [h0]; rfl)), trivial⟩ fun a102 w102 g102 sv102 => ?_
     refine tl_nil ?_
     refine k101 _ _ ?_
     refine cx_ifF sv102 rfl rfl ?_
     refine wp_skip ?_
     refine k100 _ _ ?_
     refine wp_seq_k fun K103 k103 => ?_
     replace HB3_2 := rw_kn g102 HB3_2
     replace HB4_3 := rw_kn g102 HB4_3
     replace HB5_4 := rw_kn g102 HB5_4
     replace HB6_5 := rw_kn g102 HB6_5
     replace HB7_6 := rw_kn g102 HB7_6
     replace HB9_9 := rw_kn g102 HB9_9
     replace HB10_10 := rw_kn g102 HB10_10
     replace ha := ha.kn g102
     replace hb := hb.kn g102
     replace hk90 := hk90.kn g102
     replace hf90 := TgF.kn hf90 g102
     replace hk94 := hk94.kn g102
     replace hf94 := TgF.kn hf94 g102
     replace HG := grown_trans HG g102
     have gd104 := grown_drew w102
     replace HB3_2 := rw_kn gd104 HB3_2
     replace HB4_3 := rw_kn gd104 HB4_3
     replace HB5_4 := rw_kn gd104 HB5_4
     replace HB6_5 := rw_kn gd104 HB6_5
     replace HB7_6 := rw_kn gd104 HB7_6
     replace HB9_9 := rw_kn gd104 HB9_9
     replace HB10_10 := rw_kn gd104 HB10_10
     replace ha := ha.kn gd104
     replace hb := hb.kn gd104
     replace hk90 := hk90.kn gd104
     replace hf90 := TgF.kn hf90 gd104
     replace hk94 := hk94.kn gd104
     replace hf94 := TgF.kn hf94 gd104
     replace HG := grown_trans HG gd104
     refine wp_region_noPanic ?_
     refine region_script (fun w' => w'.heap[B9_9]? = some (.cells ([bv r.1.2.1, bv r.1.2.2, [.slice ao90 ks90.length cap90]].flatten).toArray 58 (0, 0)) ∧ w'.heap[B10_10]? = some (.cells ([bv r.1.2.1, bv r.1.2.2, [.slice ao94 ks94.length cap94]].flatten).toArray 58 (0, 0)) ∧ True) [0, 1] [2, 3, 4] (by kernel_rfl) (by kernel_rfl) (fun _ _ d _ _ h => by cases d <;> exact h) rfl (by kernel_rfl) ⟨HB9_9, HB10_10, trivial⟩ ?_
     simp only [List.filterMap_cons, List.filterMap_nil, List.getElem?_toArray, List.getElem?_cons_succ, List.getElem?_cons_zero]
     refine tk_load sv102 rfl rfl rfl rfl ⟨rfl, rfl⟩ (fun w hS => loadsAt (tyVa hdg_r.1 hdg_r.2 (.slice ao90 ks90.length cap90) rfl) (rangeAt_row hS.1)) fun a105 sv105 => ?_
     refine tk_load sv105 rfl rfl rfl rfl ⟨rfl, rfl⟩ (fun w hS => loadsAt (tyVa hdg_r.1 hdg_r.2 (.slice ao94 ks94.length cap94) rfl) (rangeAt_row hS.2.1)) fun a106 sv106 => ?_
     change wpList _ _ _ _ _ _
     refine tl_sw sv106 r7 (tyVa hdg_r.1 hdg_r.2 (.slice ao90 ks90.length cap90) rfl) HB6_5 (by first | rfl | simp [kcells, bv_length, zero32_len, hdg_r.1.1, hdg_r.2.1]) fun w107 g107 h107 => ?_
     replace HB3_2 := rw_st g107 HB3_2 (Ne.symm ne_B6_5_B3_2)
     replace HB4_3 := rw_st g107 HB4_3 (Ne.symm ne_B6_5_B4_3)
     replace HB5_4 := rw_st g107 HB5_4 (Ne.symm ne_B6_5_B5_4)
     replace HB7_6 := rw_st g107 HB7_6 ne_B7_6_B6_5
     replace HB9_9 := rw_st g107 HB9_9 ne_B9_9_B6_5
     replace HB10_10 := rw_st g107 HB10_10 ne_B10_10_B6_5
     replace ha := ha.offR g107 (no_b ap_ha_B6_5)
     replace hb := hb.offR g107 (no_b ap_hb_B6_5)
     replace hk90 := hk90.offR g107 (no_b ap_hk90_B6_5)
     replace hf90 := TgF.offR hf90 g107 (no_b ap_hk90_B6_5)
     replace hk94 := hk94.offR g107 (no_b ap_hk94_B6_5)
     replace hf94 := TgF.offR hf94 g107 (no_b ap_hk94_B6_5)
     replace HG := grown_newR HG g107 lo_B6_5
     replace HB6_5 := h107
     refine tl_nil ⟨⟨HB9_9, HB10_10, trivial⟩, ?_⟩
     change wpList _ _ _ _ _ _
     refine tl_sw sv106 r7 (tyVa hdg_r.1 hdg_r.2 (.slice ao94 ks94.length cap94) rfl) HB7_6 (by first | rfl | simp [kcells, bv_length, zero32_len, hdg_r.1.1, hdg_r.2.1]) fun w108 g108 h108 => ?_
     replace HB3_2 := rw_st g108 HB3_2 (Ne.symm ne_B7_6_B3_2)
     replace HB4_3 := rw_st g108 HB4_3 (Ne.symm ne_B7_6_B4_3)
     replace HB5_4 := rw_st g108 HB5_4 (Ne.symm ne_B7_6_B5_4)
     replace HB6_5 := rw_st g108 HB6_5 (Ne.symm ne_B7_6_B6_5)
     replace HB9_9 := rw_st g108 HB9_9 ne_B9_9_B7_6
     replace HB10_10 := rw_st g108 HB10_10 ne_B10_10_B7_6
     replace ha := ha.offR g108 (no_b ap_ha_B7_6)
     replace hb := hb.offR g108 (no_b ap_hb_B7_6)
     replace hk90 := hk90.offR g108 (no_b ap_hk90_B7_6)
     replace hf90 := TgF.offR hf90 g108 (no_b ap_hk90_B7_6)
     replace hk94 := hk94.offR g108 (no_b ap_hk94_B7_6)
     replace hf94 := TgF.offR hf94 g108 (no_b ap_hk94_B7_6)
     replace HG := grown_newR HG g108 lo_B7_6
     replace HB7_6 := h108
     refine tl_nil ⟨⟨HB9_9, HB10_10, trivial⟩, ?_⟩
     change wpList _ _ _ _ _ _
     refine tl_as (v := .bool true) sv106 r6 fun a109 sv109 => ?_
     refine tl_nil ⟨⟨HB9_9, HB10_10, trivial⟩, ?_⟩
     refine NoPanic.normal ?_
     refine k103 _ _ ?_
     refine wp_ret ?_
     repeat refine then_ret ?_
     refine cx_ret (fn := Try.f50) sv109 (res_cct (p := 6) (q := 7) (s := 8) Try.results50 sv109 rfl rfl rfl rfl rfl rfl (tyVa hdg_r.1 hdg_r.2 (.slice ao90 ks90.length cap90) rfl) (tyVa hdg_r.1 hdg_r.2 (.slice ao94 ks94.length cap94) rfl) HB6_5 HB7_6) ?_
     exact (stpV_yes hr h0).symm ▸ ⟨_, _, ks90, _, _, ks94, rfl, hp90, hp94, hk90, hk94, fun k hk => (hf90 k hk).elim (fun h => h.elim) .inr, hf94, HG⟩
   · refine wp_region_lit ?_
     refine sx_hv sv99 2 [(121, .int .i64 r.2), (122, .bool true)]
       ⟨ym r5, ybc r6 (fun _ => rn_neq (by simpa using h0)), trivial⟩ fun a110 w110 g110 sv110 => ?_
     refine tl_nil ?_
     refine k101 _ _ ?_
     refine cx_ifT sv110 rfl rfl ?_
     refine wp_seq_k fun K111 k111 => ?_
     replace HB3_2 := rw_kn g110 HB3_2
     replace HB4_3 := rw_kn g110 HB4_3
     replace HB5_4 := rw_kn g110 HB5_4
     replace HB6_5 := rw_kn g110 HB6_5
     replace HB7_6 := rw_kn g110 HB7_6
     replace HB9_9 := rw_kn g110 HB9_9
     replace HB10_10 := rw_kn g110 HB10_10
     replace ha := ha.kn g110
     replace hb := hb.kn g110
     replace hk90 := hk90.kn g110
     replace hf90 := TgF.kn hf90 g110
     replace hk94 := hk94.kn g110
     replace hf94 := TgF.kn hf94 g110
     replace HG := grown_trans HG g110
     have gd112 := grown_drew w110
     replace HB3_2 := rw_kn gd112 HB3_2
     replace HB4_3 := rw_kn gd112 HB4_3
     replace HB5_4 := rw_kn gd112 HB5_4
     replace HB6_5 := rw_kn gd112 HB6_5
     replace HB7_6 := rw_kn gd112 HB7_6
     replace HB9_9 := rw_kn gd112 HB9_9
     replace HB10_10 := rw_kn gd112 HB10_10
     replace ha := ha.kn gd112
     replace hb := hb.kn gd112
     replace hk90 := hk90.kn gd112
     replace hf90 := TgF.kn hf90 gd112
     replace hk94 := hk94.kn gd112
     replace hf94 := TgF.kn hf94 gd112
     replace HG := grown_trans HG gd112
     refine wp_region_noPanic ?_
     refine region_script (fun w' => w'.heap[B3_2]? = some (.cells ([bv sa, bv po, [.slice ao ks.length cap]].flatten).toArray 58 (0, 0)) ∧ w'.heap[B4_3]? = some (.cells ([bv sa, bv po, [.slice bo ms.length bap]].flatten).toArray 58 (0, 0)) ∧ True) [0, 1] [2, 3, 4] (by kernel_rfl) (by kernel_rfl) (fun _ _ d _ _ h => by cases d <;> exact h) rfl (by kernel_rfl) ⟨HB3_2, HB4_3, trivial⟩ ?_
     simp only [List.filterMap_cons, List.filterMap_nil, List.getElem?_toArray, List.getElem?_cons_succ, List.getElem?_cons_zero]
     refine tk_load sv110 rfl rfl rfl rfl ⟨rfl, rfl⟩ (fun w hS => loadsAt (tyVa hsa hpo (.slice ao ks.length cap) rfl) (rangeAt_row hS.1)) fun a113 sv113 => ?_
     refine tk_load sv113 rfl rfl rfl rfl ⟨rfl, rfl⟩ (fun w hS => loadsAt (tyVa hsa hpo (.slice bo ms.length bap) rfl) (rangeAt_row hS.2.1)) fun a114 sv114 => ?_
     change wpList _ _ _ _ _ _
     refine tl_sw sv114 r7 (tyVa hsa hpo (.slice ao ks.length cap) rfl) HB6_5 (by first | rfl | simp [kcells, bv_length, zero32_len, hsa.1, hpo.1]) fun w115 g115 h115 => ?_
     replace HB3_2 := rw_st g115 HB3_2 (Ne.symm ne_B6_5_B3_2)
     replace HB4_3 := rw_st g115 HB4_3 (Ne.symm ne_B6_5_B4_3)
     replace HB5_4 := rw_st g115 HB5_4 (Ne.symm ne_B6_5_B5_4)
     replace HB7_6 := rw_st g115 HB7_6 ne_B7_6_B6_5
     replace HB9_9 := rw_st g115 HB9_9 ne_B9_9_B6_5
     replace HB10_10 := rw_st g115 HB10_10 ne_B10_10_B6_5
     replace ha := ha.offR g115 (no_b ap_ha_B6_5)
     replace hb := hb.offR g115 (no_b ap_hb_B6_5)
     replace hk90 := hk90.offR g115 (no_b ap_hk90_B6_5)
     replace hf90 := TgF.offR hf90 g115 (no_b ap_hk90_B6_5)
     replace hk94 := hk94.offR g115 (no_b ap_hk94_B6_5)
     replace hf94 := TgF.offR hf94 g115 (no_b ap_hk94_B6_5)
     replace HG := grown_newR HG g115 lo_B6_5
     replace HB6_5 := h115
     refine tl_nil ⟨⟨HB3_2, HB4_3, trivial⟩, ?_⟩
     change wpList _ _ _ _ _ _
     refine tl_sw sv114 r7 (tyVa hsa hpo (.slice bo ms.length bap) rfl) HB7_6 (by first | rfl | simp [kcells, bv_length, zero32_len, hsa.1, hpo.1]) fun w116 g116 h116 => ?_
     replace HB3_2 := rw_st g116 HB3_2 (Ne.symm ne_B7_6_B3_2)
     replace HB4_3 := rw_st g116 HB4_3 (Ne.symm ne_B7_6_B4_3)
     replace HB5_4 := rw_st g116 HB5_4 (Ne.symm ne_B7_6_B5_4)
     replace HB6_5 := rw_st g116 HB6_5 (Ne.symm ne_B7_6_B6_5)
     replace HB9_9 := rw_st g116 HB9_9 ne_B9_9_B7_6
     replace HB10_10 := rw_st g116 HB10_10 ne_B10_10_B7_6
     replace ha := ha.offR g116 (no_b ap_ha_B7_6)
     replace hb := hb.offR g116 (no_b ap_hb_B7_6)
     replace hk90 := hk90.offR g116 (no_b ap_hk90_B7_6)
     replace hf90 := TgF.offR hf90 g116 (no_b ap_hk90_B7_6)
     replace hk94 := hk94.offR g116 (no_b ap_hk94_B7_6)
     replace hf94 := TgF.offR hf94 g116 (no_b ap_hk94_B7_6)
     replace HG := grown_newR HG g116 lo_B7_6
     replace HB7_6 := h116
     refine tl_nil ⟨⟨HB3_2, HB4_3, trivial⟩, ?_⟩
     change wpList _ _ _ _ _ _
     refine tl_as (v := .bool true) sv114 r6 fun a117 sv117 => ?_
     refine tl_nil ⟨⟨HB3_2, HB4_3, trivial⟩, ?_⟩
     refine NoPanic.normal ?_
     refine k111 _ _ ?_
     refine wp_ret ?_
     repeat refine then_ret ?_
     refine cx_ret (fn := Try.f50) sv117 (res_cct (p := 6) (q := 7) (s := 8) Try.results50 sv117 rfl rfl rfl rfl rfl rfl (tyVa hsa hpo (.slice ao ks.length cap) rfl) (tyVa hsa hpo (.slice bo ms.length bap) rfl) HB6_5 HB7_6) ?_
     exact (stpV_no hr h0).symm ▸ ⟨ao, cap, ks, bo, bap, ms, rfl, hm, hm2, ha, hb, fun k hk => .inl hk, fun k hk => .inl hk, HG⟩
 · rw [h, if_neg (show ¬ ((3 : Nat) : Int) = 0 by decide), if_neg (show ¬ ((3 : Nat) : Int) = 1 by decide), if_neg (show ¬ ((3 : Nat) : Int) = 2 by decide)] at hrr
   have hdg_r : VDg r.1 := hrr ▸ drpO_dg ⟨hsa, hpo⟩
   refine wp_region_lit ?_
   refine sx_hv sv16 1 [(21, .bool false)]
     ⟨ybc r6 (fun _ => rn_eql (by rw [h]; rfl)), trivial⟩ fun a118 w118 g118 sv118 => ?_
   refine tl_as (v := .bool false) sv118 r6 fun a119 sv119 => ?_
   refine tl_nil ?_
   refine k18 _ _ ?_
   refine cx_ifF sv119 rfl rfl ?_
   refine wp_seq_k fun K120 k120 => ?_
   refine wp_region_lit ?_
   refine sx_hv sv119 1 [(39, .bool false)]
     ⟨ybc r6 (fun _ => rn_eql (by rw [h]; rfl)), trivial⟩ fun a121 w121 g121 sv121 => ?_
   have gc121 := grown_trans g118 g121
   refine tl_as (v := .bool false) sv121 r6 fun a122 sv122 => ?_
   refine tl_nil ?_
   refine k120 _ _ ?_
   refine cx_ifF sv122 rfl rfl ?_
   refine wp_seq_k fun K123 k123 => ?_
   refine wp_region_lit ?_
   refine sx_hv sv122 1 [(71, .bool false)]
     ⟨ybc r6 (fun _ => rn_eql (by rw [h]; rfl)), trivial⟩ fun a124 w124 g124 sv124 => ?_
   have gc124 := grown_trans gc121 g124
   refine tl_as (v := .bool false) sv124 r6 fun a125 sv125 => ?_
   refine tl_nil ?_
   refine k123 _ _ ?_
   refine cx_ifF sv125 rfl rfl ?_
   refine wp_seq_k fun K126 k126 => ?_
   refine wp_region_lit ?_
   refine sx_hv sv125 1 [(93, .bool true)]
     ⟨ybc r6 (fun _ => rn_eql (by rw [h]; rfl)), trivial⟩ fun a127 w127 g127 sv127 => ?_
   have gc127 := grown_trans gc124 g127
   refine tl_as (v := .bool true) sv127 r6 fun a128 sv128 => ?_
   refine tl_nil ?_
   refine k126 _ _ ?_
   refine cx_ifT sv128 rfl rfl ?_
   refine wp_seq_k fun K129 k129 => ?_
   replace HB3_2 := rw_kn gc127 HB3_2
   replace HB4_3 := rw_kn gc127 HB4_3
   replace HB5_4 := rw_kn gc127 HB5_4
   replace HB6_5 := rw_kn gc127 HB6_5
   replace HB7_6 := rw_kn gc127 HB7_6
   replace HB9_9 := rw_kn gc127 HB9_9
   replace HB10_10 := rw_kn gc127 HB10_10
   replace ha := ha.kn gc127
   replace hb := hb.kn gc127
   replace HG := grown_trans HG gc127
   refine rx_tail (sv128.st w127) (by kernel_rfl) 8 [(95, Sp.is (vval sa po (.slice ao ks.length cap))), (96, Sp.is (pk B5_4 1)), (97, Sp.is (.int .i64 c.o)), (98, Sp.is (dval O)), (99, Sp.vt r ((fun _ => False))), (94, Sp.vt r ((fun _ => False))), (100, Sp.vv r.1 ((fun _ => False))), (101, Sp.is (.int .i64 r.2))] rfl (by kernel_rfl) (by kernel_rfl) (by kernel_rfl) [7] (by kernel_rfl)
     ⟨yl r6 (tyVa hsa hpo (.slice ao ks.length cap) rfl) HB3_2, yf r6 (fun _ => by kernel_rfl), yp (i := 1) r6 (tyIntV c.o) HB5_4 rfl rfl, ox_call (Sp.is (dval O)) [.int .i64 c.o] rfl rfl trivial ⟨(oy rfl rfl), trivial⟩ (is_on fun W g => hO ▸ owner_4 c.o W) (fun _ _ h => h) (enter_of Try.func51 (by kernel_rfl) rfl), ox_call (Sp.vt r ((fun _ => False))) [vval sa po (.slice ao ks.length cap), dval O] rfl rfl trivial ⟨(oy rfl rfl), (oy rfl rfl), trivial⟩ (drp_on hsa hpo hOd ha hm hrr) (fun _ _ h => h) (enter_of Try.func37 (by kernel_rfl) rfl), ym r5, ox_extract rfl rfl rfl trivial (fun w u h => vt_vault w u h), ox_extract rfl rfl rfl trivial (fun w u h => vt_err w u h), trivial⟩ ⟨fun o ho => by obtain rfl := Option.some.inj ho; exact px_extract rfl rfl rfl trivial (fun w u h => vt_err w u h), trivial⟩
     [] (by kernel_rfl) trivial ⟨.inl rfl, .inl rfl, .inl rfl, .inl rfl, .inl rfl, .inl rfl, .inl rfl, .inl rfl, trivial⟩ (by kernel_rfl) fun a130 w130 g130 st130 nd130 => ?_
   obtain ⟨hn130, hd130, e130_95, e130_96, e130_97, e130_98, e130_99, e130_94, e130_100, e130_101, e130_92, e130_93, e130_70, e130_71, e130_38, e130_39, e130_20, e130_21, e130_17, e130_18, e130_19, e130_12, e130_11, e130_10, e130_9, e130_8, e130_7, e130_6, e130_5, e130_4, e130_3, e130_0, e130_1, e130_2, -⟩ := st130
   obtain ⟨ao131, cap131, ks131, e130_100q, hp131, hk131, hf131⟩ := e130_100
   replace HB3_2 := rw_kn g130 HB3_2
   replace HB4_3 := rw_kn g130 HB4_3
   replace HB5_4 := rw_kn g130 HB5_4
   replace HB6_5 := rw_kn g130 HB6_5
   replace HB7_6 := rw_kn g130 HB7_6
   replace HB9_9 := rw_kn g130 HB9_9
   replace HB10_10 := rw_kn g130 HB10_10
   replace ha := ha.kn g130
   replace hb := hb.kn g130
   replace HG := grown_trans HG g130
   have ap_hk131_B3_2 := vt_ap0 hf131 HB3_2 (by decide)
   have ap_hk131_B4_3 := vt_ap0 hf131 HB4_3 (by decide)
   have ap_hk131_B5_4 := vt_ap0 hf131 HB5_4 (by decide)
   have ap_hk131_B6_5 := vt_ap0 hf131 HB6_5 (by decide)
   have ap_hk131_B7_6 := vt_ap0 hf131 HB7_6 (by decide)
   have ap_hk131_B9_9 := vt_ap0 hf131 HB9_9 (by decide)
   have ap_hk131_B10_10 := vt_ap0 hf131 HB10_10 (by decide)
   have sv130 : Sv 127 [] [(92, _), (93, _), (70, _), (71, _), (38, _), (39, _), (20, _), (21, _), (17, _), (18, _), (19, _), (12, _), (11, _), (10, _), (9, _), (8, _), (7, _), (6, _), (5, _), (4, _), (3, _), (0, _), (1, _), (2, _), (100, _), (101, _)] a130 := ⟨hn130, hd130, e130_92, e130_93, e130_70, e130_71, e130_38, e130_39, e130_20, e130_21, e130_17, e130_18, e130_19, e130_12, e130_11, e130_10, e130_9, e130_8, e130_7, e130_6, e130_5, e130_4, e130_3, e130_0, e130_1, e130_2, e130_100q, e130_101, trivial⟩
   refine tl_sw sv130 r7 (tyVa hdg_r.1 hdg_r.2 (.slice ao131 ks131.length cap131) rfl) HB9_9 (by first | rfl | simp [kcells, bv_length, zero32_len, hdg_r.1.1, hdg_r.2.1]) fun w132 g132 h132 => ?_
   replace HB3_2 := rw_st g132 HB3_2 (Ne.symm ne_B9_9_B3_2)
   replace HB4_3 := rw_st g132 HB4_3 (Ne.symm ne_B9_9_B4_3)
   replace HB5_4 := rw_st g132 HB5_4 (Ne.symm ne_B9_9_B5_4)
   replace HB6_5 := rw_st g132 HB6_5 (Ne.symm ne_B9_9_B6_5)
   replace HB7_6 := rw_st g132 HB7_6 (Ne.symm ne_B9_9_B7_6)
   replace HB10_10 := rw_st g132 HB10_10 ne_B10_10_B9_9
   replace ha := ha.offR g132 (no_b ap_ha_B9_9)
   replace hb := hb.offR g132 (no_b ap_hb_B9_9)
   replace hk131 := hk131.offR g132 (no_b ap_hk131_B9_9)
   replace hf131 := TgF.offR hf131 g132 (no_b ap_hk131_B9_9)
   replace HG := grown_newR HG g132 lo_B9_9
   replace HB9_9 := h132
   refine tl_as (v := .int .i64 r.2) sv130 r6 fun a133 sv133 => ?_
   refine tl_nil ?_
   refine k129 _ _ ?_
   refine rx_tail (sv133.st w132) (by kernel_rfl) 8 [(103, Sp.is (vval sa po (.slice bo ms.length bap))), (104, Sp.is (pk B5_4 1)), (105, Sp.is (.int .i64 c.o)), (106, Sp.is (dval O)), (107, Sp.vt r (fpK (.slice bo ms.length bap) ms)), (102, Sp.vt r (fpK (.slice bo ms.length bap) ms)), (108, Sp.vv r.1 (fpK (.slice bo ms.length bap) ms)), (109, Sp.is (.int .i64 r.2))] rfl (by kernel_rfl) (by kernel_rfl) (by kernel_rfl) [7] (by kernel_rfl)
     ⟨yl r6 (tyVa hsa hpo (.slice bo ms.length bap) rfl) HB4_3, yf r6 (fun _ => by kernel_rfl), yp (i := 1) r6 (tyIntV c.o) HB5_4 rfl rfl, ox_call (Sp.is (dval O)) [.int .i64 c.o] rfl rfl trivial ⟨(oy rfl rfl), trivial⟩ (is_on fun W g => hO ▸ owner_4 c.o W) (fun _ _ h => h) (enter_of Try.func51 (by kernel_rfl) rfl), ox_call (Sp.vt r (fpK (.slice bo ms.length bap) ms)) [vval sa po (.slice bo ms.length bap), dval O] rfl rfl trivial ⟨(oy rfl rfl), (oy rfl rfl), trivial⟩ (rdrp_on hsa hpo hOd hb hm2 hrr) (fun _ _ h => h) (enter_of Try.func44 (by kernel_rfl) rfl), ym r5, ox_extract rfl rfl rfl trivial (fun w u h => vt_vault w u h), ox_extract rfl rfl rfl trivial (fun w u h => vt_err w u h), trivial⟩ ⟨fun o ho => by obtain rfl := Option.some.inj ho; exact px_extract rfl rfl rfl trivial (fun w u h => vt_err w u h), trivial⟩
     [] (by kernel_rfl) trivial ⟨.inl rfl, .inl rfl, .inl rfl, .inl rfl, .inl rfl, .inl rfl, .inl rfl, .inl rfl, trivial⟩ (by kernel_rfl) fun a134 w134 g134 st134 nd134 => ?_
   obtain ⟨hn134, hd134, e134_103, e134_104, e134_105, e134_106, e134_107, e134_102, e134_108, e134_109, e134_11, e134_92, e134_93, e134_70, e134_71, e134_38, e134_39, e134_20, e134_21, e134_17, e134_18, e134_19, e134_12, e134_10, e134_9, e134_8, e134_7, e134_6, e134_5, e134_4, e134_3, e134_0, e134_1, e134_2, e134_100, e134_101, -⟩ := st134
   obtain ⟨ao135, cap135, ks135, e134_108q, hp135, hk135, hf135⟩ := e134_108
   replace HB3_2 := rw_kn g134 HB3_2
   replace HB4_3 := rw_kn g134 HB4_3
   replace HB5_4 := rw_kn g134 HB5_4
   replace HB6_5 := rw_kn g134 HB6_5
   replace HB7_6 := rw_kn g134 HB7_6
   replace HB9_9 := rw_kn g134 HB9_9
   replace HB10_10 := rw_kn g134 HB10_10
   replace ha := ha.kn g134
   replace hb := hb.kn g134
   replace hk131 := hk131.kn g134
   replace hf131 := TgF.kn hf131 g134
   replace HG := grown_trans HG g134
   have ap_hk135_B3_2 := vt_ap1 hf135 ap_hb_B3_2 HB3_2 (by decide)
   have ap_hk135_B4_3 := vt_ap1 hf135 ap_hb_B4_3 HB4_3 (by decide)
   have ap_hk135_B5_4 := vt_ap1 hf135 ap_hb_B5_4 HB5_4 (by decide)
   have ap_hk135_B6_5 := vt_ap1 hf135 ap_hb_B6_5 HB6_5 (by decide)
   have ap_hk135_B7_6 := vt_ap1 hf135 ap_hb_B7_6 HB7_6 (by decide)
   have ap_hk135_B9_9 := vt_ap1 hf135 ap_hb_B9_9 HB9_9 (by decide)
   have ap_hk135_B10_10 := vt_ap1 hf135 ap_hb_B10_10 HB10_10 (by decide)
   have sv134 : Sv 127 [] [(11, _), (92, _), (93, _), (70, _), (71, _), (38, _), (39, _), (20, _), (21, _), (17, _), (18, _), (19, _), (12, _), (10, _), (9, _), (8, _), (7, _), (6, _), (5, _), (4, _), (3, _), (0, _), (1, _), (2, _), (100, _), (101, _), (108, _), (109, _)] a134 := ⟨hn134, hd134, e134_11, e134_92, e134_93, e134_70, e134_71, e134_38, e134_39, e134_20, e134_21, e134_17, e134_18, e134_19, e134_12, e134_10, e134_9, e134_8, e134_7, e134_6, e134_5, e134_4, e134_3, e134_0, e134_1, e134_2, e134_100, e134_101, e134_108q, e134_109, trivial⟩
   refine tl_sw sv134 r7 (tyVa hdg_r.1 hdg_r.2 (.slice ao135 ks135.length cap135) rfl) HB10_10 (by first | rfl | simp [kcells, bv_length, zero32_len, hdg_r.1.1, hdg_r.2.1]) fun w136 g136 h136 => ?_
   replace HB3_2 := rw_st g136 HB3_2 (Ne.symm ne_B10_10_B3_2)
   replace HB4_3 := rw_st g136 HB4_3 (Ne.symm ne_B10_10_B4_3)
   replace HB5_4 := rw_st g136 HB5_4 (Ne.symm ne_B10_10_B5_4)
   replace HB6_5 := rw_st g136 HB6_5 (Ne.symm ne_B10_10_B6_5)
   replace HB7_6 := rw_st g136 HB7_6 (Ne.symm ne_B10_10_B7_6)
   replace HB9_9 := rw_st g136 HB9_9 (Ne.symm ne_B10_10_B9_9)
   replace ha := ha.offR g136 (no_b ap_ha_B10_10)
   replace hb := hb.offR g136 (no_b ap_hb_B10_10)
   replace hk131 := hk131.offR g136 (no_b ap_hk131_B10_10)
   replace hf131 := TgF.offR hf131 g136 (no_b ap_hk131_B10_10)
   replace hk135 := hk135.offR g136 (no_b ap_hk135_B10_10)
   replace hf135 := TgF.offR hf135 g136 (no_b ap_hk135_B10_10)
   replace HG := grown_newR HG g136 lo_B10_10
   replace HB10_10 := h136
   refine tl_as (v := .int .i64 r.2) sv134 r6 fun a137 sv137 => ?_
   refine tl_nil ?_
   refine y17 _ _ ?_
   refine k14 _ _ ?_
   refine wp_seq_k fun K138 k138 => ?_
   refine wp_seq_k fun K139 k139 => ?_
   refine wp_region_lit ?_
   refine sx_hv sv137 9 [(110, .int .i64 r.2), (111, .int .i64 r.2), (112, .bool false), (113, .bool false), (114, vval r.1.2.1 r.1.2.2 (.slice ao131 ks131.length cap131)), (115, vval r.1.2.1 r.1.2.2 (.slice ao135 ks135.length cap135)), (116, .bool true), (117, .bool false), (118, .bool false)]
     ⟨ym r5, ym r5, ybt r7 (fun _ => rn_neq (by simp)), ym r5, ox_load rfl rfl (gy rfl rfl rfl) (oy rfl rfl) (fun _ g => loadsAt (tyVa hdg_r.1 hdg_r.2 (.slice ao131 ks131.length cap131) rfl) (rangeAt_row (row_of g HB9_9 (by simp)))) (fun _ => rfl), ox_load rfl rfl (gy rfl rfl rfl) (oy rfl rfl) (fun _ g => loadsAt (tyVa hdg_r.1 hdg_r.2 (.slice ao135 ks135.length cap135) rfl) (rangeAt_row (row_of g HB10_10 (by simp)))) (fun _ => rfl), ox_call (Sp.is (.bool true)) [vval r.1.2.1 r.1.2.2 (.slice ao131 ks131.length cap131), vval r.1.2.1 r.1.2.2 (.slice ao135 ks135.length cap135)] rfl rfl (gy rfl rfl rfl) ⟨(oy rfl rfl), (oy rfl rfl), trivial⟩ (is_on fun W g => samev_walk ks131 ks135 _ _ _ _ _ _ hdg_r.1 hdg_r.2 (hp131.trans hp135.symm) W (hk131.kn g) (hk135.kn g)) (fun _ _ h => h) (enter_of Try.func38 (by kernel_rfl) rfl), ox_un rfl rfl (gy rfl rfl rfl) (oy rfl rfl) (fun _ => rn_not) (fun _ => rfl), ox_pick rfl rfl trivial (oy rfl rfl) (oy rfl rfl) (fun _ => rfl), trivial⟩ fun a140 w140 g140 sv140 => ?_
   refine tl_nil ?_
   refine k139 _ _ ?_
   refine cx_ifF sv140 rfl rfl ?_
   refine wp_skip ?_
   refine k138 _ _ ?_
   refine wp_seq_k fun K141 k141 => ?_
   refine wp_seq_k fun K142 k142 => ?_
   replace HB3_2 := rw_kn g140 HB3_2
   replace HB4_3 := rw_kn g140 HB4_3
   replace HB5_4 := rw_kn g140 HB5_4
   replace HB6_5 := rw_kn g140 HB6_5
   replace HB7_6 := rw_kn g140 HB7_6
   replace HB9_9 := rw_kn g140 HB9_9
   replace HB10_10 := rw_kn g140 HB10_10
   replace ha := ha.kn g140
   replace hb := hb.kn g140
   replace hk131 := hk131.kn g140
   replace hf131 := TgF.kn hf131 g140
   replace hk135 := hk135.kn g140
   replace hf135 := TgF.kn hf135 g140
   replace HG := grown_trans HG g140
   by_cases h0 : r.2 = 0
   · refine wp_region_lit ?_
     refine sx_hv sv140 2 [(121, .int .i64 r.2), (122, .bool false)]
       ⟨ym r5, ybc r6 (fun _ => rn_neq (by rw [h0]; rfl)), trivial⟩ fun a143 w143 g143 sv143 => ?_
     refine tl_nil ?_
     refine k142 _ _ ?_
     refine cx_ifF sv143 rfl rfl ?_
     refine wp_skip ?_
     refine k141 _ _ ?_
     refine wp_seq_k fun K144 k144 => ?_
     replace HB3_2 := rw_kn g143 HB3_2
     replace HB4_3 := rw_kn g143 HB4_3
     replace HB5_4 := rw_kn g143 HB5_4
     replace HB6_5 := rw_kn g143 HB6_5
     replace HB7_6 := rw_kn g143 HB7_6
     replace HB9_9 := rw_kn g143 HB9_9
     replace HB10_10 := rw_kn g143 HB10_10
     replace ha := ha.kn g143
     replace hb := hb.kn g143
     replace hk131 := hk131.kn g143
     replace hf131 := TgF.kn hf131 g143
     replace hk135 := hk135.kn g143
     replace hf135 := TgF.kn hf135 g143
     replace HG := grown_trans HG g143
     have gd145 := grown_drew w143
     replace HB3_2 := rw_kn gd145 HB3_2
     replace HB4_3 := rw_kn gd145 HB4_3
     replace HB5_4 := rw_kn gd145 HB5_4
     replace HB6_5 := rw_kn gd145 HB6_5
     replace HB7_6 := rw_kn gd145 HB7_6
     replace HB9_9 := rw_kn gd145 HB9_9
     replace HB10_10 := rw_kn gd145 HB10_10
     replace ha := ha.kn gd145
     replace hb := hb.kn gd145
     replace hk131 := hk131.kn gd145
     replace hf131 := TgF.kn hf131 gd145
     replace hk135 := hk135.kn gd145
     replace hf135 := TgF.kn hf135 gd145
     replace HG := grown_trans HG gd145
     refine wp_region_noPanic ?_
     refine region_script (fun w' => w'.heap[B9_9]? = some (.cells ([bv r.1.2.1, bv r.1.2.2, [.slice ao131 ks131.length cap131]].flatten).toArray 58 (0, 0)) ∧ w'.heap[B10_10]? = some (.cells ([bv r.1.2.1, bv r.1.2.2, [.slice ao135 ks135.length cap135]].flatten).toArray 58 (0, 0)) ∧ True) [0, 1] [2, 3, 4] (by kernel_rfl) (by kernel_rfl) (fun _ _ d _ _ h => by cases d <;> exact h) rfl (by kernel_rfl) ⟨HB9_9, HB10_10, trivial⟩ ?_
     simp only [List.filterMap_cons, List.filterMap_nil, List.getElem?_toArray, List.getElem?_cons_succ, List.getElem?_cons_zero]
     refine tk_load sv143 rfl rfl rfl rfl ⟨rfl, rfl⟩ (fun w hS => loadsAt (tyVa hdg_r.1 hdg_r.2 (.slice ao131 ks131.length cap131) rfl) (rangeAt_row hS.1)) fun a146 sv146 => ?_
     refine tk_load sv146 rfl rfl rfl rfl ⟨rfl, rfl⟩ (fun w hS => loadsAt (tyVa hdg_r.1 hdg_r.2 (.slice ao135 ks135.length cap135) rfl) (rangeAt_row hS.2.1)) fun a147 sv147 => ?_
     change wpList _ _ _ _ _ _
     refine tl_sw sv147 r7 (tyVa hdg_r.1 hdg_r.2 (.slice ao131 ks131.length cap131) rfl) HB6_5 (by first | rfl | simp [kcells, bv_length, zero32_len, hdg_r.1.1, hdg_r.2.1]) fun w148 g148 h148 => ?_
     replace HB3_2 := rw_st g148 HB3_2 (Ne.symm ne_B6_5_B3_2)
     replace HB4_3 := rw_st g148 HB4_3 (Ne.symm ne_B6_5_B4_3)
     replace HB5_4 := rw_st g148 HB5_4 (Ne.symm ne_B6_5_B5_4)
     replace HB7_6 := rw_st g148 HB7_6 ne_B7_6_B6_5
     replace HB9_9 := rw_st g148 HB9_9 ne_B9_9_B6_5
     replace HB10_10 := rw_st g148 HB10_10 ne_B10_10_B6_5
     replace ha := ha.offR g148 (no_b ap_ha_B6_5)
     replace hb := hb.offR g148 (no_b ap_hb_B6_5)
     replace hk131 := hk131.offR g148 (no_b ap_hk131_B6_5)
     replace hf131 := TgF.offR hf131 g148 (no_b ap_hk131_B6_5)
     replace hk135 := hk135.offR g148 (no_b ap_hk135_B6_5)
     replace hf135 := TgF.offR hf135 g148 (no_b ap_hk135_B6_5)
     replace HG := grown_newR HG g148 lo_B6_5
     replace HB6_5 := h148
     refine tl_nil ⟨⟨HB9_9, HB10_10, trivial⟩, ?_⟩
     change wpList _ _ _ _ _ _
     refine tl_sw sv147 r7 (tyVa hdg_r.1 hdg_r.2 (.slice ao135 ks135.length cap135) rfl) HB7_6 (by first | rfl | simp [kcells, bv_length, zero32_len, hdg_r.1.1, hdg_r.2.1]) fun w149 g149 h149 => ?_
     replace HB3_2 := rw_st g149 HB3_2 (Ne.symm ne_B7_6_B3_2)
     replace HB4_3 := rw_st g149 HB4_3 (Ne.symm ne_B7_6_B4_3)
     replace HB5_4 := rw_st g149 HB5_4 (Ne.symm ne_B7_6_B5_4)
     replace HB6_5 := rw_st g149 HB6_5 (Ne.symm ne_B7_6_B6_5)
     replace HB9_9 := rw_st g149 HB9_9 ne_B9_9_B7_6
     replace HB10_10 := rw_st g149 HB10_10 ne_B10_10_B7_6
     replace ha := ha.offR g149 (no_b ap_ha_B7_6)
     replace hb := hb.offR g149 (no_b ap_hb_B7_6)
     replace hk131 := hk131.offR g149 (no_b ap_hk131_B7_6)
     replace hf131 := TgF.offR hf131 g149 (no_b ap_hk131_B7_6)
     replace hk135 := hk135.offR g149 (no_b ap_hk135_B7_6)
     replace hf135 := TgF.offR hf135 g149 (no_b ap_hk135_B7_6)
     replace HG := grown_newR HG g149 lo_B7_6
     replace HB7_6 := h149
     refine tl_nil ⟨⟨HB9_9, HB10_10, trivial⟩, ?_⟩
     change wpList _ _ _ _ _ _
     refine tl_as (v := .bool true) sv147 r6 fun a150 sv150 => ?_
     refine tl_nil ⟨⟨HB9_9, HB10_10, trivial⟩, ?_⟩
     refine NoPanic.normal ?_
     refine k144 _ _ ?_
     refine wp_ret ?_
     repeat refine then_ret ?_
     refine cx_ret (fn := Try.f50) sv150 (res_cct (p := 6) (q := 7) (s := 8) Try.results50 sv150 rfl rfl rfl rfl rfl rfl (tyVa hdg_r.1 hdg_r.2 (.slice ao131 ks131.length cap131) rfl) (tyVa hdg_r.1 hdg_r.2 (.slice ao135 ks135.length cap135) rfl) HB6_5 HB7_6) ?_
     exact (stpV_yes hr h0).symm ▸ ⟨_, _, ks131, _, _, ks135, rfl, hp131, hp135, hk131, hk135, fun k hk => (hf131 k hk).elim (fun h => h.elim) .inr, hf135, HG⟩
   · refine wp_region_lit ?_
     refine sx_hv sv140 2 [(121, .int .i64 r.2), (122, .bool true)]
       ⟨ym r5, ybc r6 (fun _ => rn_neq (by simpa using h0)), trivial⟩ fun a151 w151 g151 sv151 => ?_
     refine tl_nil ?_
     refine k142 _ _ ?_
     refine cx_ifT sv151 rfl rfl ?_
     refine wp_seq_k fun K152 k152 => ?_
     replace HB3_2 := rw_kn g151 HB3_2
     replace HB4_3 := rw_kn g151 HB4_3
     replace HB5_4 := rw_kn g151 HB5_4
     replace HB6_5 := rw_kn g151 HB6_5
     replace HB7_6 := rw_kn g151 HB7_6
     replace HB9_9 := rw_kn g151 HB9_9
     replace HB10_10 := rw_kn g151 HB10_10
     replace ha := ha.kn g151
     replace hb := hb.kn g151
     replace hk131 := hk131.kn g151
     replace hf131 := TgF.kn hf131 g151
     replace hk135 := hk135.kn g151
     replace hf135 := TgF.kn hf135 g151
     replace HG := grown_trans HG g151
     have gd153 := grown_drew w151
     replace HB3_2 := rw_kn gd153 HB3_2
     replace HB4_3 := rw_kn gd153 HB4_3
     replace HB5_4 := rw_kn gd153 HB5_4
     replace HB6_5 := rw_kn gd153 HB6_5
     replace HB7_6 := rw_kn gd153 HB7_6
     replace HB9_9 := rw_kn gd153 HB9_9
     replace HB10_10 := rw_kn gd153 HB10_10
     replace ha := ha.kn gd153
     replace hb := hb.kn gd153
     replace hk131 := hk131.kn gd153
     replace hf131 := TgF.kn hf131 gd153
     replace hk135 := hk135.kn gd153
     replace hf135 := TgF.kn hf135 gd153
     replace HG := grown_trans HG gd153
     refine wp_region_noPanic ?_
     refine region_script (fun w' => w'.heap[B3_2]? = some (.cells ([bv sa, bv po, [.slice ao ks.length cap]].flatten).toArray 58 (0, 0)) ∧ w'.heap[B4_3]? = some (.cells ([bv sa, bv po, [.slice bo ms.length bap]].flatten).toArray 58 (0, 0)) ∧ True) [0, 1] [2, 3, 4] (by kernel_rfl) (by kernel_rfl) (fun _ _ d _ _ h => by cases d <;> exact h) rfl (by kernel_rfl) ⟨HB3_2, HB4_3, trivial⟩ ?_
     simp only [List.filterMap_cons, List.filterMap_nil, List.getElem?_toArray, List.getElem?_cons_succ, List.getElem?_cons_zero]
     refine tk_load sv151 rfl rfl rfl rfl ⟨rfl, rfl⟩ (fun w hS => loadsAt (tyVa hsa hpo (.slice ao ks.length cap) rfl) (rangeAt_row hS.1)) fun a154 sv154 => ?_
     refine tk_load sv154 rfl rfl rfl rfl ⟨rfl, rfl⟩ (fun w hS => loadsAt (tyVa hsa hpo (.slice bo ms.length bap) rfl) (rangeAt_row hS.2.1)) fun a155 sv155 => ?_
     change wpList _ _ _ _ _ _
     refine tl_sw sv155 r7 (tyVa hsa hpo (.slice ao ks.length cap) rfl) HB6_5 (by first | rfl | simp [kcells, bv_length, zero32_len, hsa.1, hpo.1]) fun w156 g156 h156 => ?_
     replace HB3_2 := rw_st g156 HB3_2 (Ne.symm ne_B6_5_B3_2)
     replace HB4_3 := rw_st g156 HB4_3 (Ne.symm ne_B6_5_B4_3)
     replace HB5_4 := rw_st g156 HB5_4 (Ne.symm ne_B6_5_B5_4)
     replace HB7_6 := rw_st g156 HB7_6 ne_B7_6_B6_5
     replace HB9_9 := rw_st g156 HB9_9 ne_B9_9_B6_5
     replace HB10_10 := rw_st g156 HB10_10 ne_B10_10_B6_5
     replace ha := ha.offR g156 (no_b ap_ha_B6_5)
     replace hb := hb.offR g156 (no_b ap_hb_B6_5)
     replace hk131 := hk131.offR g156 (no_b ap_hk131_B6_5)
     replace hf131 := TgF.offR hf131 g156 (no_b ap_hk131_B6_5)
     replace hk135 := hk135.offR g156 (no_b ap_hk135_B6_5)
     replace hf135 := TgF.offR hf135 g156 (no_b ap_hk135_B6_5)
     replace HG := grown_newR HG g156 lo_B6_5
     replace HB6_5 := h156
     refine tl_nil ⟨⟨HB3_2, HB4_3, trivial⟩, ?_⟩
     change wpList _ _ _ _ _ _
     refine tl_sw sv155 r7 (tyVa hsa hpo (.slice bo ms.length bap) rfl) HB7_6 (by first | rfl | simp [kcells, bv_length, zero32_len, hsa.1, hpo.1]) fun w157 g157 h157 => ?_
     replace HB3_2 := rw_st g157 HB3_2 (Ne.symm ne_B7_6_B3_2)
     replace HB4_3 := rw_st g157 HB4_3 (Ne.symm ne_B7_6_B4_3)
     replace HB5_4 := rw_st g157 HB5_4 (Ne.symm ne_B7_6_B5_4)
     replace HB6_5 := rw_st g157 HB6_5 (Ne.symm ne_B7_6_B6_5)
     replace HB9_9 := rw_st g157 HB9_9 ne_B9_9_B7_6
     replace HB10_10 := rw_st g157 HB10_10 ne_B10_10_B7_6
     replace ha := ha.offR g157 (no_b ap_ha_B7_6)
     replace hb := hb.offR g157 (no_b ap_hb_B7_6)
     replace hk131 := hk131.offR g157 (no_b ap_hk131_B7_6)
     replace hf131 := TgF.offR hf131 g157 (no_b ap_hk131_B7_6)
     replace hk135 := hk135.offR g157 (no_b ap_hk135_B7_6)
     replace hf135 := TgF.offR hf135 g157 (no_b ap_hk135_B7_6)
     replace HG := grown_newR HG g157 lo_B7_6
     replace HB7_6 := h157
     refine tl_nil ⟨⟨HB3_2, HB4_3, trivial⟩, ?_⟩
     change wpList _ _ _ _ _ _
     refine tl_as (v := .bool true) sv155 r6 fun a158 sv158 => ?_
     refine tl_nil ⟨⟨HB3_2, HB4_3, trivial⟩, ?_⟩
     refine NoPanic.normal ?_
     refine k152 _ _ ?_
     refine wp_ret ?_
     repeat refine then_ret ?_
     refine cx_ret (fn := Try.f50) sv158 (res_cct (p := 6) (q := 7) (s := 8) Try.results50 sv158 rfl rfl rfl rfl rfl rfl (tyVa hsa hpo (.slice ao ks.length cap) rfl) (tyVa hsa hpo (.slice bo ms.length bap) rfl) HB6_5 HB7_6) ?_
     exact (stpV_no hr h0).symm ▸ ⟨ao, cap, ks, bo, bap, ms, rfl, hm, hm2, ha, hb, fun k hk => .inl hk, fun k hk => .inl hk, HG⟩
end Go.Proofs.Yteakoleceoclkaa
