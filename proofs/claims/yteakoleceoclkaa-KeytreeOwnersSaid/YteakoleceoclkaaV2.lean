/- Vaults: owners compared, found. (printed by gen_v2.py) -/
import Derived.Test.YteakoleceoclkaaV1
namespace Go.Proofs.Yteakoleceoclkaa
open Go.RowKit Go.Shelf
set_option linter.unusedSimpArgs false
set_option linter.unusedVariables false
theorem zero32_len : zero32.length = 32 := rfl
theorem zero32_dg : Dg zero32 := ⟨rfl, by intro x hx; simp [zero32, zs] at hx; omega⟩
theorem RdK.keyX {w : World} {ao : Option Addr} {n cap j : Nat} {ks : List VK} {x : VK} (h : RdK w (.slice ao n cap) ks) (hn : n = ks.length) (hj : j < ks.length) (hx : ks[j] = x) : w.rangeAt (bO ao) (oO ao + j * 33) (kcells x) := hx ▸ h.key hn hj
theorem RdK.treeX {w : World} {ao : Option Addr} {n cap j : Nat} {ks : List VK} {x : VK} (h : RdK w (.slice ao n cap) ks) (hn : n = ks.length) (hj : j < ks.length) (hx : ks[j] = x) : w.rangeAt (bO ao) (oO ao + j * 33 + 32) [x.s] := hx ▸ h.tree hn hj
set_option maxRecDepth 100000 in
set_option maxHeartbeats 4000000 in
theorem cmpo_walk (x : VK) (o : List Nat) (ho : Dg o) (w : World) :
    Calls Try.prog 80 #[kval x, dval o] w fun e w' => e = .returned (.int .i64 (bcmp x.o o)) ∧ w.grownBy w' none := by
  refine cx_enter Try.func80 rfl Try.ntmps80 rfl fun a0 sv0 => ?_
  have HG := World.grownBy.refl w none
  replace sv0 : Sv 9 [] [(0, kval x), (1, dval o)] a0 := sv0
  refine wp_seq_k fun K1 k1 => ?_
  refine wp_region_lit ?_
  refine tl_box sv0 rfl rfl rfl rfl rfl rfl (tyK x) fun a2 w2 B2_2 eq_B2_2 g2 z2 HB2_2 sv2 => ?_
  have lo_B2_2 := nb_lo HG eq_B2_2
  replace HG := grown_trans HG g2
  replace sv2 : Sv 9 [] [(2, .pointer (some ⟨B2_2, 0, none⟩)), (0, kval x), (1, dval o)] a2 := sv2
  refine tl_box sv2 rfl rfl rfl rfl rfl rfl (tyD o ho.1) fun a3 w3 B3_3 eq_B3_3 g3 z3 HB3_3 sv3 => ?_
  have ne_B3_3_B2_2 := nb_ne HB2_2 eq_B3_3
  have lo_B3_3 := nb_lo HG eq_B3_3
  replace HB2_2 := rw_kn g3 HB2_2
  replace HG := grown_trans HG g3
  replace sv3 : Sv 9 [] [(3, .pointer (some ⟨B3_3, 0, none⟩)), (2, .pointer (some ⟨B2_2, 0, none⟩)), (0, kval x), (1, dval o)] a3 := sv3
  refine tl_assign sv3 rfl (.inl rfl) rfl rfl rfl rfl fun a4 sv4 => ?_
  replace sv4 : Sv 9 [] [(4, .int .i64 0), (3, .pointer (some ⟨B3_3, 0, none⟩)), (2, .pointer (some ⟨B2_2, 0, none⟩)), (0, kval x), (1, dval o)] a4 := sv4
  have sv5 : Sv 9 [] [(4, .int .i64 0), (3, .pointer (some ⟨B3_3, 0, none⟩)), (2, .pointer (some ⟨B2_2, 0, none⟩))] a4 := ⟨sv4.1, sv4.2.1, sv4.2.2.1, sv4.2.2.2.1, sv4.2.2.2.2.1, trivial⟩
  refine tl_nil ?_
  refine k1 _ _ ?_
  refine wp_seq_k fun K6 k6 => ?_
  have sv7c : Sv 9 [] [(3, .pointer (some ⟨B3_3, 0, none⟩)), (2, .pointer (some ⟨B2_2, 0, none⟩))] a4 := ⟨sv5.1, sv5.2.1, sv5.2.2.2.1, sv5.2.2.2.2.1, trivial⟩
  refine rx_all (sv7c.st w3) (by kernel_rfl) [(5, Sp.is (.pointer (some ⟨B2_2, 0, none⟩))), (6, Sp.is (.slice ((some ⟨B2_2, 0, none⟩)) 32 32)), (7, Sp.is (.slice ((some ⟨B3_3, 0, none⟩)) 32 32)), (8, Sp.is (.int .i64 ((bcmp x.o o)))), (4, Sp.is (.int .i64 ((bcmp x.o o))))] rfl (by kernel_rfl) (by kernel_rfl) (by kernel_rfl)
    ⟨xf rfl rfl rfl rfl rfl (fun _ => by kernel_rfl) rfl, ox_slice (l := none) (u := none) rfl rfl trivial (oy rfl rfl) trivial trivial (sl_arr B2_2 0) (fun _ => rfl), ox_slice (l := none) (u := none) rfl rfl trivial (oy rfl rfl) trivial trivial (sl_arr B3_3 0) (fun _ => rfl), ox_call (Sp.is (.int .i64 ((bcmp x.o o)))) [.slice ((some ⟨B2_2, 0, none⟩)) 32 32, .slice ((some ⟨B3_3, 0, none⟩)) 32 32] rfl rfl trivial ⟨(oy rfl rfl), (oy rfl rfl), trivial⟩ (is_on fun W g => compare_walk x.ho ho (range_part (L := [bv x.o, [VK.s x]]) (i := 0) (row_of g HB2_2 (by simp)) rfl rfl) (rangeAt_row (row_of g HB3_3 (by simp)))) (fun _ _ h => h) (enter_of Try.func96 (by kernel_rfl) rfl), ox_move 8 4 (.inr rfl) rfl rfl trivial (fun _ _ h => h), trivial⟩ fun a7 w7 g7 st7 => ?_
  obtain ⟨hn7, hd7, e7_5, e7_6, e7_7, e7_8, e7_4, e7_3, e7_2, -⟩ := st7
  replace HB2_2 := rw_kn g7 HB2_2
  replace HB3_3 := rw_kn g7 HB3_3
  replace HG := grown_trans HG g7
  have sv7 : Sv 9 [] [(3, .pointer (some ⟨B3_3, 0, none⟩)), (2, .pointer (some ⟨B2_2, 0, none⟩)), (4, .int .i64 ((bcmp x.o o)))] a7 := ⟨hn7, hd7, e7_3, e7_2, e7_4, trivial⟩
  refine k6 _ _ ?_
  refine wp_ret ?_
  repeat refine then_ret ?_
  refine cx_ret (fn := Try.f80) sv7 (res_tmp (p := 4) Try.results80 sv7 rfl rfl) ?_
  exact ⟨rfl, HG⟩
end Go.Proofs.Yteakoleceoclkaa
