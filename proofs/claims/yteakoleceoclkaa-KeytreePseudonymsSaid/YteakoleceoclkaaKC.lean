/- Pseudonyms. (printed by gen_kc.py) -/
import Derived.Test.YteakoleceoclkaaKB
import Derived.Test.YteakoleceoclkaaVD
namespace Go.Proofs.Yteakoleceoclkaa
open Go.RowKit Go.Shelf
set_option linter.unusedSimpArgs false
set_option linter.unusedVariables false
theorem ox_lenS {P : Program} {ops : Array Oper} {L : Nat → Sp} {n : Nat} {w0 : World} {o : Oper} {x : Operand} {t : TypeId} {d : Nat} {s : ByteArray} (he : P.underlying t = some .string) (ho : o.op = .call { callee := .builtin .len, args := #[x], argTypes := #[t] }) (hd : o.dst = some d) (hg : GX ops L n o.guard) (hx : OpX L n x (.string s)) (h : ∀ w, (L d).on w (.int .i64 s.size)) : OX P ops L n w0 o :=
 ox_run hg fun a w hw hl hsz => ⟨.int .i64 s.size, by
   have e := hx.eval (o := o) (a := a) (w := w) (by simp [ho, Op.operands, Call.operands]) hl
   simp only [execOp, ho, resolve, Sem.run_bind, Sem.run_pure, Result.andThen_ok, List.map_toArray, List.map_cons, List.map_nil, e]
   simp [invoke, builtin, Builtin.len_, run_underlying he, goInt], dst_on hd (h w)⟩
set_option maxRecDepth 100000 in
set_option maxHeartbeats 4000000 in
theorem pse_walk (sa po : List Nat) (hsa : Dg sa) (hpo : Dg po) (ao : Option Addr) (n cap : Nat) (x : Idf) (hx : x.ns.size ≤ 1000000) (w : World) :
   Calls Try.prog 47 #[vval sa po (.slice ao n cap), valIdf x] w fun e w' => e = .returned (dval (pse sa x)) ∧ w.grownBy w' none := by
 have hl := encIdf_bd x hx
 refine cx_enterD Try.func47 rfl Try.ntmps47 rfl fun a0 sv0 => ?_
 have HG := World.grownBy.refl w none
 replace sv0 : Sv 10 [] [(0, vval sa po (.slice ao n cap)), (1, valIdf x)] a0 := sv0
 refine wp_seq_k fun K1 k1 => ?_
 refine wp_region_lit ?_
 refine tl_box sv0 rfl rfl rfl rfl rfl rfl (tyVa hsa hpo (.slice ao n cap) rfl) fun a2 w2 B2_2 eq_B2_2 g2 z2 HB2_2 sv2 => ?_
 have lo_B2_2 := nb_lo HG eq_B2_2
 replace HG := grown_trans HG g2
 refine tl_box sv2 rfl rfl rfl rfl rfl rfl (tyIdf x) fun a3 w3 B3_3 eq_B3_3 g3 z3 HB3_3 sv3 => ?_
 have ne_B3_3_B2_2 := nb_ne HB2_2 eq_B3_3
 have lo_B3_3 := nb_lo HG eq_B3_3
 replace HB2_2 := rw_kn g3 HB2_2
 replace HG := grown_trans HG g3
 refine tl_alloc (T := 29) (Z := (bv zero32)) sv3 rfl rfl rfl (fun a w => by kernel_rfl) fun a4 w4 B4_4 eq_B4_4 g4 z4 HB4_4 sv4 => ?_
 have ne_B4_4_B2_2 := nb_ne HB2_2 eq_B4_4
 have ne_B4_4_B3_3 := nb_ne HB3_3 eq_B4_4
 have lo_B4_4 := nb_lo HG eq_B4_4
 replace HB2_2 := rw_kn g4 HB2_2
 replace HB3_3 := rw_kn g4 HB3_3
 replace HG := grown_trans HG g4
 refine tl_nil ?_
 refine k1 _ _ ?_
 refine wp_seq_k fun K5 k5 => ?_
 refine wp_region_lit ?_
 refine tl_defer sv4 rfl (dd := { target := .fn (.func 81) #[], args := #[] }) rfl (by simp [execOp, resolve, Deferred.ofValue]; try rfl) fun a6 sv6 => ?_
 refine tl_nil ?_
 refine k5 _ _ ?_
 refine wp_seq_k fun K7 k7 => ?_
 refine rx_tail (sv6.st w4) (by kernel_rfl) 5 [(5, Sp.is (pt B2_2)), (6, Sp.is (dval sa)), (7, Sp.is (valIdf x)), (8, Sp.row w4.heap.size 5 1 ((encIdf x)).length (bv ((encIdf x)))), (9, Sp.is (dval ((pse sa x))))] rfl (by kernel_rfl) (by kernel_rfl) (by kernel_rfl) [] (by kernel_rfl)
   ⟨yf r6 (fun _ => by kernel_rfl), yp (i := 0) r6 (tyD sa hsa.1) HB2_2 rfl rfl, yl r6 (tyIdf x) HB3_3, ox_call (Sp.row w4.heap.size 5 1 ((encIdf x)).length (bv ((encIdf x)))) [.slice none 0 0, valIdf x] rfl rfl trivial ⟨rfl, (oy rfl rfl), trivial⟩ (appid_on x hx) (fun _ _ h => h) (enter_of Try.func82 (by kernel_rfl) rfl), ox_callY (Sp.is (dval (pse sa x))) rfl rfl trivial rfl (fun W g av h => match av, h with | [v1, v2, v3], ⟨h1, h2, h3, _⟩ => keyed_r (K := pse sa x) rfl hsa (encIdf_lt x) (by omega) h1 h2 h3) (fun _ _ h => h) (enter_of Try.func67 (by kernel_rfl) rfl), trivial⟩ trivial
   [] (by kernel_rfl) trivial ⟨.inl rfl, .inl rfl, .inl rfl, .inl rfl, .inl rfl, trivial⟩ (by kernel_rfl) fun a8 w8 g8 st8 nd8 => ?_
 obtain ⟨hn8, hd8, e8_5, e8_6, e8_7, e8_8, e8_9, e8_4, e8_3, e8_2, e8_0, e8_1, -⟩ := st8
 have sv8 : Sv 10 [{ target := .fn (.func 81) #[], args := #[] }] [(4, _), (3, _), (2, _), (0, _), (1, _), (9, _)] a8 := ⟨hn8, hd8, e8_4, e8_3, e8_2, e8_0, e8_1, e8_9, trivial⟩
 refine tl_sw sv8 r7 (tyD ((pse sa x)) (pse_dg sa x).1) (rw_kn g8 HB4_4) (lenD (pse_dg sa x)) fun w9 g9 h9 => ?_
 replace HB2_2 := rw_s2 g8 g9 HB2_2 (Ne.symm ne_B4_4_B2_2)
 replace HB3_3 := rw_s2 g8 g9 HB3_3 (Ne.symm ne_B4_4_B3_3)
 replace HG := grown_newR (grown_trans HG g8) g9 lo_B4_4
 replace HB4_4 := h9
 refine tl_nil ?_
 refine k7 _ _ ?_
 refine wp_ret ?_
 repeat refine then_ret ?_
 refine cx_retD (fn := Try.f47) sv8 (res_cell (p := 4) Try.results47 sv8 rfl rfl (tyD ((pse sa x)) (pse_dg sa x).1) HB4_4) (inv_of Try.func81 (by kernel_rfl) rfl _ _) (recPseud_walk _) ?_
 exact ⟨rfl, HG⟩
set_option maxRecDepth 100000 in
set_option maxHeartbeats 4000000 in
theorem rpse_walk (sa po : List Nat) (hsa : Dg sa) (hpo : Dg po) (ao : Option Addr) (n cap : Nat) (x : Idf) (hx : x.ns.size ≤ 1000000) (w : World) :
   Calls Try.prog 48 #[vval sa po (.slice ao n cap), valIdf x] w fun e w' => e = .returned (dval (pse sa x)) ∧ w.grownBy w' none := by
 have hl := encIdf_bd x hx
 refine cx_enter Try.func48 rfl Try.ntmps48 rfl fun a0 sv0 => ?_
 have HG := World.grownBy.refl w none
 replace sv0 : Sv 10 [] [(0, vval sa po (.slice ao n cap)), (1, valIdf x)] a0 := sv0
 refine wp_seq_k fun K1 k1 => ?_
 refine wp_region_lit ?_
 refine tl_box sv0 rfl rfl rfl rfl rfl rfl (tyVa hsa hpo (.slice ao n cap) rfl) fun a2 w2 B2_2 eq_B2_2 g2 z2 HB2_2 sv2 => ?_
 have lo_B2_2 := nb_lo HG eq_B2_2
 replace HG := grown_trans HG g2
 refine tl_box sv2 rfl rfl rfl rfl rfl rfl (tyIdf x) fun a3 w3 B3_3 eq_B3_3 g3 z3 HB3_3 sv3 => ?_
 have ne_B3_3_B2_2 := nb_ne HB2_2 eq_B3_3
 have lo_B3_3 := nb_lo HG eq_B3_3
 replace HB2_2 := rw_kn g3 HB2_2
 replace HG := grown_trans HG g3
 refine tl_alloc (T := 29) (Z := (bv zero32)) sv3 rfl rfl rfl (fun a w => by kernel_rfl) fun a4 w4 B4_4 eq_B4_4 g4 z4 HB4_4 sv4 => ?_
 have ne_B4_4_B2_2 := nb_ne HB2_2 eq_B4_4
 have ne_B4_4_B3_3 := nb_ne HB3_3 eq_B4_4
 have lo_B4_4 := nb_lo HG eq_B4_4
 replace HB2_2 := rw_kn g4 HB2_2
 replace HB3_3 := rw_kn g4 HB3_3
 replace HG := grown_trans HG g4
 refine tl_nil ?_
 refine k1 _ _ ?_
 refine wp_seq_k fun K5 k5 => ?_
 refine rx_tail (sv4.st w4) (by kernel_rfl) 5 [(5, Sp.is (pt B2_2)), (6, Sp.is (dval sa)), (7, Sp.is (valIdf x)), (8, Sp.row w4.heap.size 5 1 ((encIdf x)).length (bv ((encIdf x)))), (9, Sp.is (dval ((pse sa x))))] rfl (by kernel_rfl) (by kernel_rfl) (by kernel_rfl) [] (by kernel_rfl)
   ⟨yf r6 (fun _ => by kernel_rfl), yp (i := 0) r6 (tyD sa hsa.1) HB2_2 rfl rfl, yl r6 (tyIdf x) HB3_3, ox_call (Sp.row w4.heap.size 5 1 ((encIdf x)).length (bv ((encIdf x)))) [valIdf x] rfl rfl trivial ⟨(oy rfl rfl), trivial⟩ (rident_on x hx) (fun _ _ h => h) (enter_of Try.func83 (by kernel_rfl) rfl), ox_callY (Sp.is (dval (pse sa x))) rfl rfl trivial rfl (fun W g av h => match av, h with | [v1, v2, v3], ⟨h1, h2, h3, _⟩ => rkeyed_r (K := pse sa x) rfl hsa (encIdf_lt x) (by omega) h1 h2 h3) (fun _ _ h => h) (enter_of Try.func76 (by kernel_rfl) rfl), trivial⟩ trivial
   [] (by kernel_rfl) trivial ⟨.inl rfl, .inl rfl, .inl rfl, .inl rfl, .inl rfl, trivial⟩ (by kernel_rfl) fun a6 w6 g6 st6 nd6 => ?_
 obtain ⟨hn6, hd6, e6_5, e6_6, e6_7, e6_8, e6_9, e6_4, e6_3, e6_2, e6_0, e6_1, -⟩ := st6
 have sv6 : Sv 10 [] [(4, _), (3, _), (2, _), (0, _), (1, _), (9, _)] a6 := ⟨hn6, hd6, e6_4, e6_3, e6_2, e6_0, e6_1, e6_9, trivial⟩
 refine tl_sw sv6 r7 (tyD ((pse sa x)) (pse_dg sa x).1) (rw_kn g6 HB4_4) (lenD (pse_dg sa x)) fun w7 g7 h7 => ?_
 replace HB2_2 := rw_s2 g6 g7 HB2_2 (Ne.symm ne_B4_4_B2_2)
 replace HB3_3 := rw_s2 g6 g7 HB3_3 (Ne.symm ne_B4_4_B3_3)
 replace HG := grown_newR (grown_trans HG g6) g7 lo_B4_4
 replace HB4_4 := h7
 refine tl_nil ?_
 refine k5 _ _ ?_
 refine wp_ret ?_
 repeat refine then_ret ?_
 refine cx_ret (fn := Try.f48) sv6 (res_cell (p := 4) Try.results48 sv6 rfl rfl (tyD ((pse sa x)) (pse_dg sa x).1) HB4_4) ?_
 exact ⟨rfl, HG⟩
end Go.Proofs.Yteakoleceoclkaa
