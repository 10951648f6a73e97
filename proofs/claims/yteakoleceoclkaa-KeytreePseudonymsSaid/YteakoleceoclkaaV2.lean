/- Vaults: owners compared, found. (printed by gen_v2.py) -/
import Derived.Test.YteakoleceoclkaaV1
namespace Go.Proofs.Yteakoleceoclkaa
open Go.RowKit Go.Shelf
set_option linter.unusedSimpArgs false
set_option linter.unusedVariables false
theorem zero32_len : zero32.length = 32 := rfl
theorem zero32_dg : Dg zero32 := ⟨rfl, by intro x hx; simp [zero32, zs] at hx; omega⟩
theorem RdK.keyX {w : World} {ao : Option Addr} {n cap j : Nat} {ks : List VK} {x : VK} (h : RdK w (.slice ao n cap) ks) (hn : n = ks.length) (hj : j < ks.length) (hx : ks[j] = x) : w.rangeAt (bO ao) (oO ao + j * 33) (kcells x) := hx ▸ h.key hn hj
set_option maxRecDepth 100000 in
set_option maxHeartbeats 4000000 in
theorem cmpo_walk (x : VK) (o : List Nat) (ho : Dg o) (w : World) :
   Calls Try.prog 80 #[kval x, dval o] w fun e w' => e = .returned (.int .i64 (bcmp x.o o)) ∧ w.grownBy w' none := by
 refine cx_enter Try.func80 rfl Try.ntmps80 rfl fun a0 sv0 => ?_
 have HG := World.grownBy.refl w none
 replace sv0 : Sv 9 [] [(0, kval x), (1, dval o)] a0 := sv0
 refine wp_seq_k fun K1 k1 => ?_
 refine wp_region_lit ?_
 refine tl_box sv0 rfl rfl rfl rfl rfl rfl (tyK x) fun a2 w2 B2_2 eq_B2_2 g2 z2 HB2_2 sv2 => ?_
 have lo_B2_2 := nb_lo HG eq_B2_2
 replace HG := grown_trans HG g2
 refine tl_box sv2 rfl rfl rfl rfl rfl rfl (tyD o ho.1) fun a3 w3 B3_3 eq_B3_3 g3 z3 HB3_3 sv3 => ?_
 have ne_B3_3_B2_2 := nb_ne HB2_2 eq_B3_3
 have lo_B3_3 := nb_lo HG eq_B3_3
 replace HB2_2 := rw_kn g3 HB2_2
 replace HG := grown_trans HG g3
 refine tl_as (v := .int .i64 0) sv3 r6 fun a4 sv4 => ?_
 refine tl_nil ?_
 refine k1 _ _ ?_
 refine wp_seq_k fun K5 k5 => ?_
 refine rx_av (sv4.dl [4]) [(5, pt B2_2), (6, .slice ((some ⟨B2_2, 0, none⟩)) 32 32), (7, .slice ((some ⟨B3_3, 0, none⟩)) 32 32), (8, .int .i64 ((bcmp x.o o))), (4, .int .i64 ((bcmp x.o o)))]
   ⟨yf r6 (fun _ => by kernel_rfl), ox_slice (l := none) (u := none) rfl rfl trivial (oy rfl rfl) trivial trivial (sl_arr B2_2 0) (fun _ => rfl), ox_slice (l := none) (u := none) rfl rfl trivial (oy rfl rfl) trivial trivial (sl_arr B3_3 0) (fun _ => rfl), ox_call (Sp.is (.int .i64 ((bcmp x.o o)))) [.slice ((some ⟨B2_2, 0, none⟩)) 32 32, .slice ((some ⟨B3_3, 0, none⟩)) 32 32] rfl rfl trivial ⟨(oy rfl rfl), (oy rfl rfl), trivial⟩ (is_on fun W g => compare_walk x.ho ho (range_part (L := [bv x.o, [VK.s x]]) (i := 0) (row_of g HB2_2 (by simp)) rfl rfl) (rangeAt_row (row_of g HB3_3 (by simp)))) (fun _ _ h => h) (enter_of Try.func96 (by kernel_rfl) rfl), ox_move 8 4 (.inr rfl) rfl rfl trivial (fun _ _ h => h), trivial⟩ fun a6 w6 g6 sv6 => ?_
 refine k5 _ _ ?_
 replace HB2_2 := rw_kn g6 HB2_2
 replace HB3_3 := rw_kn g6 HB3_3
 replace HG := grown_trans HG g6
 refine wp_ret ?_
 repeat refine then_ret ?_
 refine cx_ret (fn := Try.f80) sv6 (res_tmp (p := 4) Try.results80 sv6 rfl rfl) ?_
 exact ⟨rfl, HG⟩
end Go.Proofs.Yteakoleceoclkaa
