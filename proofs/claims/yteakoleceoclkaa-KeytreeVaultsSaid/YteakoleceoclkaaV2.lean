/- Vaults: owners compared, found. (printed by gen_v2.py) -/
import Derived.Test.YteakoleceoclkaaV1
namespace Go.Proofs.Yteakoleceoclkaa
open Go.RowKit Go.Shelf
set_option linter.unusedSimpArgs false
set_option linter.unusedVariables false
theorem zero32_len : zero32.length = 32 := rfl
theorem zero32_dg : Dg zero32 := ⟨rfl, by intro x hx; simp [zero32, zs] at hx; omega⟩
theorem RdK.keyX {w : World} {ao : Option Addr} {n cap j : Nat} {ks : List VK} {x : VK} (h : RdK w (.slice ao n cap) ks) (hn : n = ks.length) (hj : j < ks.length) (hx : ks[j] = x) : w.rangeAt (bO ao) (oO ao + j * 33) (kcells x) := hx ▸ h.key hn hj
theorem RdK.ownerX {w : World} {ao : Option Addr} {n cap j : Nat} {ks : List VK} {x : VK} (h : RdK w (.slice ao n cap) ks) (hn : n = ks.length) (hj : j < ks.length) (hx : ks[j] = x) : w.rangeAt (bO ao) (oO ao + j * 33) (bv x.o) := hx ▸ h.owner hn hj
theorem RdK.treeX {w : World} {ao : Option Addr} {n cap j : Nat} {ks : List VK} {x : VK} (h : RdK w (.slice ao n cap) ks) (hn : n = ks.length) (hj : j < ks.length) (hx : ks[j] = x) : w.rangeAt (bO ao) (oO ao + j * 33 + 32) [x.s] := hx ▸ h.tree hn hj
set_option maxRecDepth 100000 in
set_option maxHeartbeats 4000000 in
theorem cmpo_walk (x : VK) (o : List Nat) (ho : Dg o) (w : World) :
   Calls Try.prog 80 #[kval x, dval o] w fun e w' => e = .returned (.int .i64 (bcmp x.o o)) ∧ w.grownBy w' none := by
 refine cx_enter Try.func80 rfl Try.ntmps80 rfl fun a0 sv0 => ?_
 have HG := World.grownBy.refl w none
 replace sv0 : Sv 9 [] [(0, kval x), (1, dval o)] a0 := sv0
 refine wp_seq_k fun K1 k1 => ?_
 refine wp_region_lit ?_
 refine tl_box sv0 rfl rfl rfl rfl rfl rfl (tyK x) fun a2 w2 B2_2 eq_B2_2 g2 z2 HB2_2 sv2 => ?_
 have lo_B2_2 := nb_lo HG eq_B2_2
 replace HG := grown_trans HG g2
 refine tl_box sv2 rfl rfl rfl rfl rfl rfl (tyD o ho.1) fun a3 w3 B3_3 eq_B3_3 g3 z3 HB3_3 sv3 => ?_
 have ne_B3_3_B2_2 := nb_ne HB2_2 eq_B3_3
 have lo_B3_3 := nb_lo HG eq_B3_3
 replace HB2_2 := rw_kn g3 HB2_2
 replace HG := grown_trans HG g3
 refine tl_as (v := .int .i64 0) sv3 r6 fun a4 sv4 => ?_
 refine tl_nil ?_
 refine k1 _ _ ?_
 refine wp_seq_k fun K5 k5 => ?_
 refine rx_av (sv4.dl [4]) [(5, pt B2_2), (6, .slice ((some ⟨B2_2, 0, none⟩)) 32 32), (7, .slice ((some ⟨B3_3, 0, none⟩)) 32 32), (8, .int .i64 ((bcmp x.o o))), (4, .int .i64 ((bcmp x.o o)))]
   ⟨yf r6 (fun _ => by kernel_rfl), ox_slice (l := none) (u := none) rfl rfl trivial (oy rfl rfl) trivial trivial (sl_arr B2_2 0) (fun _ => rfl), ox_slice (l := none) (u := none) rfl rfl trivial (oy rfl rfl) trivial trivial (sl_arr B3_3 0) (fun _ => rfl), ox_call (Sp.is (.int .i64 ((bcmp x.o o)))) [.slice ((some ⟨B2_2, 0, none⟩)) 32 32, .slice ((some ⟨B3_3, 0, none⟩)) 32 32] rfl rfl trivial ⟨(oy rfl rfl), (oy rfl rfl), trivial⟩ (is_on fun W g => compare_walk x.ho ho (range_part (L := [bv x.o, [VK.s x]]) (i := 0) (row_of g HB2_2 (by simp)) rfl rfl) (rangeAt_row (row_of g HB3_3 (by simp)))) (fun _ _ h => h) (enter_of Try.func96 (by kernel_rfl) rfl), ox_move 8 4 (.inr rfl) rfl rfl trivial (fun _ _ h => h), trivial⟩ fun a6 w6 g6 sv6 => ?_
 refine k5 _ _ ?_
 replace HB2_2 := rw_kn g6 HB2_2
 replace HB3_3 := rw_kn g6 HB3_3
 replace HG := grown_trans HG g6
 refine wp_ret ?_
 repeat refine then_ret ?_
 refine cx_ret (fn := Try.f80) sv6 (res_tmp (p := 4) Try.results80 sv6 rfl rfl) ?_
 exact ⟨rfl, HG⟩
theorem blt_step {x y : List Nat} {j : Nat} (h : ∀ i, i < j → x[i]? = y[i]?) {a b : Nat} (ha : x[j]? = some a) (hb : y[j]? = some b) (hne : a ≠ b) : blt x y = decide (a < b) := by
 induction x generalizing y j with
 | nil => simp at ha
 | cons u x ih =>
   cases y with
   | nil => simp at hb
   | cons v y =>
     cases j with
     | zero =>
       simp at ha hb
       subst ha hb
       have : (u == v) = false := by simpa using hne
       simp [blt, this]
     | succ j =>
       have h0 := h 0 (by omega)
       simp at h0
       subst h0
       have := ih (y := y) (j := j) (fun i hi => by have := h (i + 1) (by omega); simpa using this) (by simpa using ha) (by simpa using hb)
       simp [blt, this]
theorem blt_same {x y : List Nat} (hl : x.length = 32) (hm : y.length = 32) (h : ∀ i, i < 32 → x[i]? = y[i]?) : blt x y = false := by
 have : x = y := List.ext_getElem? fun i => by
   by_cases hi : i < 32
   · exact h i hi
   · rw [List.getElem?_eq_none (by omega), List.getElem?_eq_none (by omega)]
 rw [this, blt_irrefl]
theorem bv_range {w : World} {b o : Nat} {x : List Nat} (h : w.rangeAt b o (bv x)) {j a : Nat} (ha : x[j]? = some a) : w.rangeAt b (o + j) [.int .u8 (a : Int)] := by
 refine rangeAt_one ?_
 refine h j _ ?_
 unfold bv
 rw [List.getElem?_map, ha]
 rfl
theorem tyU8 (x : Int) : TY Try.prog 5 [.int .u8 x] (.int .u8 x) := TY.one' Try.underlying5 rfl (by kernel_rfl) rfl
theorem ix_arr {b j : Nat} (hj : j < 32) (w : World) : (Instr.indexAt 29 (.pointer (some ⟨b, 0, none⟩)) (.int .i64 (j : Int))).run Try.prog w = .ok (.pointer (some ⟨b, j, none⟩)) w := by
 have h1 : (0 : Int) ≤ (j : Int) ∧ (j : Int) < 32 := ⟨by omega, by omega⟩
 rw [run_indexAt_array (P := Try.prog) (w := w) (t := 29) (a := ⟨b, 0, none⟩) (k := .i64) (i := (j : Int)) (h := by kernel_rfl)]
 have e1 : Try.prog.arrayLen 29 = 32 := by kernel_rfl
 have e2 : (sizeOf (Try.prog.elem 29)).run Try.prog w = .ok 1 w := by kernel_rfl
 rw [e1]
 simp [h1, Addr.add, e2, Result.andThen]
 intro h0
 exact h0.symm
set_option maxRecDepth 100000 in
set_option maxHeartbeats 4000000 in
theorem less_walk (x y : List Nat) (hx : Dg x) (hy : Dg y) (w : World) :
   Calls Try.prog 77 #[dval x, dval y] w fun e w' => e = .returned (.bool (blt x y)) ∧ w.grownBy w' none := by
 refine cx_enter Try.func77 rfl Try.ntmps77 rfl fun a0 sv0 => ?_
 have HG := World.grownBy.refl w none
 replace sv0 : Sv 24 [] [(0, dval x), (1, dval y)] a0 := sv0
 refine wp_seq_k fun K1 k1 => ?_
 refine wp_region_lit ?_
 refine tl_box sv0 rfl rfl rfl rfl rfl rfl (tyD x hx.1) fun a2 w2 B2_2 eq_B2_2 g2 z2 HB2_2 sv2 => ?_
 have lo_B2_2 := nb_lo HG eq_B2_2
 replace HG := grown_trans HG g2
 refine tl_box sv2 rfl rfl rfl rfl rfl rfl (tyD y hy.1) fun a3 w3 B3_3 eq_B3_3 g3 z3 HB3_3 sv3 => ?_
 have ne_B3_3_B2_2 := nb_ne HB2_2 eq_B3_3
 have lo_B3_3 := nb_lo HG eq_B3_3
 replace HB2_2 := rw_kn g3 HB2_2
 replace HG := grown_trans HG g3
 refine tl_as (v := .bool false) sv3 r6 fun a4 sv4 => ?_
 refine tl_nil ?_
 refine k1 _ _ ?_
 refine wp_seq_k fun K5 k5 => ?_
 refine wp_seq_k fun K6 k6 => ?_
 refine wp_region_lit ?_
 refine tl_as (v := .int .i64 0) sv4 r6 fun a7 sv7 => ?_
 refine tl_nil ?_
 refine k6 _ _ ?_
 refine cx_block fun Q8 x8 y8 r8 o8 => ?_
 refine wp_loop (fun a w' => ∃ (j : Nat), (j ≤ 32) ∧ (∀ i, i < j → x[i]? = y[i]?) ∧ Sv 24 [] [(5, .int .i64 ((j : Int))), (3, pt B3_3), (2, pt B2_2), (0, dval x), (1, dval y)] a ∧ w.grownBy w' none ∧ w'.heap[B2_2]? = some (.cells (bv x).toArray 29 (0, 0)) ∧ w'.heap[B3_3]? = some (.cells (bv y).toArray 29 (0, 0))) (fun a _ => (32 - intOf (a.tmps.getD 5 undef)).toNat) ⟨0, by omega, fun i hi => by omega, ⟨sv7.1, sv7.2.1, sv7.2.2.1, sv7.2.2.2.2.1, sv7.2.2.2.2.2.1, sv7.2.2.2.2.2.2.1, sv7.2.2.2.2.2.2.2.1, trivial⟩, HG, HB2_2, HB3_3⟩ fun a9 w9 hI9 => ?_
 clear HB2_2
 clear HB3_3
 clear HG
 obtain ⟨j, hj32, heq, sv9, HG, HB2_2, HB3_3⟩ := hI9
 refine wp_seq_k fun K10 k10 => ?_
 refine wp_seq_k fun K11 k11 => ?_
 by_cases hj : j < 32
 · obtain ⟨a, hxa⟩ : ∃ a, x[j]? = some a := ⟨_, List.getElem?_eq_getElem (by rw [hx.1]; exact hj)⟩
   obtain ⟨b, hyb⟩ : ∃ b, y[j]? = some b := ⟨_, List.getElem?_eq_getElem (by rw [hy.1]; exact hj)⟩
   refine wp_region_lit ?_
   refine sx_hv sv9 2 [(6, .int .i64 ((j : Int))), (7, .bool true)]
     ⟨ym r5, ybc r6 (fun _ => rn_lss (by simp; omega)), trivial⟩ fun a12 w12 g12 sv12 => ?_
   refine tl_nil ?_
   refine k11 _ _ ?_
   refine cx_ifT sv12 rfl rfl ?_
   refine wp_skip ?_
   refine k10 _ _ ?_
   refine wp_seq_k fun K13 k13 => ?_
   refine cx_block fun Q14 x14 y14 r14 o14 => ?_
   refine wp_seq_k fun K15 k15 => ?_
   replace HB2_2 := rw_kn g12 HB2_2
   replace HB3_3 := rw_kn g12 HB3_3
   replace HG := grown_trans HG g12
   by_cases hab : a = b
   · refine rx_av sv12 [(10, .int .i64 ((j : Int))), (11, pk B2_2 j), (12, .int .u8 ((a : Int))), (13, .int .i64 ((j : Int))), (14, pk B3_3 j), (15, .int .u8 ((b : Int))), (16, .bool false)]
       ⟨ym r5, ox_index rfl rfl trivial (oy rfl rfl) (oy rfl rfl) (fun w => ix_arr hj w) (fun _ => rfl), ox_load rfl rfl trivial (oy rfl rfl) (fun _ g => loadsAt (tyU8 (a : Int)) (by simpa using bv_range (o := 0) (rangeAt_row (row_of g HB2_2 (by simp))) hxa)) (fun _ => rfl), ym r5, ox_index rfl rfl trivial (oy rfl rfl) (oy rfl rfl) (fun w => ix_arr hj w) (fun _ => rfl), ox_load rfl rfl trivial (oy rfl rfl) (fun _ g => loadsAt (tyU8 (b : Int)) (by simpa using bv_range (o := 0) (rangeAt_row (row_of g HB3_3 (by simp))) hyb)) (fun _ => rfl), ybt r7 (fun _ => rn_neq (by simp [hab])), trivial⟩ fun a16 w16 g16 sv16 => ?_
     refine k15 _ _ ?_
     refine cx_ifF sv16 rfl rfl ?_
     refine wp_skip ?_
     refine y14 _ _ ?_
     refine k13 _ _ ?_
     refine wp_region_lit ?_
     refine sx_hv sv16 2 [(8, .int .i64 ((j : Int))), (9, .int .i64 (((j + 1 : Nat) : Int)))]
       ⟨ym r5, ybc r6 (fun _ => rn_add (by rw [wrap_i64 (by omega) (by omega)]; omega)), trivial⟩ fun a17 w17 g17 sv17 => ?_
     have gc17 := grown_trans g16 g17
     refine tl_as (v := .int .i64 (((j + 1 : Nat) : Int))) sv17 r6 fun a18 sv18 => ?_
     refine tl_nil ?_
     replace HB2_2 := rw_kn gc17 HB2_2
     replace HB3_3 := rw_kn gc17 HB3_3
     replace HG := grown_trans HG gc17
     exact ⟨⟨j + 1, by omega, fun i hi => by
                 by_cases h : i = j
                 · subst h; rw [hxa, hyb, hab]
                 · exact heq i (by omega), ⟨sv18.1, sv18.2.1, sv18.2.2.1, sv18.2.2.2.2.2.2.2.2.2.2.2.2.2.2.1, sv18.2.2.2.2.2.2.2.2.2.2.2.2.2.2.2.1, sv18.2.2.2.2.2.2.2.2.2.2.2.2.2.2.2.2.1, sv18.2.2.2.2.2.2.2.2.2.2.2.2.2.2.2.2.2.1, trivial⟩, HG, HB2_2, HB3_3⟩, by rw [show _ = _ from sv18.2.2.1, show _ = _ from sv9.2.2.1]; simp [intOf]; omega⟩
   · refine rx_av sv12 [(10, .int .i64 ((j : Int))), (11, pk B2_2 j), (12, .int .u8 ((a : Int))), (13, .int .i64 ((j : Int))), (14, pk B3_3 j), (15, .int .u8 ((b : Int))), (16, .bool true)]
       ⟨ym r5, ox_index rfl rfl trivial (oy rfl rfl) (oy rfl rfl) (fun w => ix_arr hj w) (fun _ => rfl), ox_load rfl rfl trivial (oy rfl rfl) (fun _ g => loadsAt (tyU8 (a : Int)) (by simpa using bv_range (o := 0) (rangeAt_row (row_of g HB2_2 (by simp))) hxa)) (fun _ => rfl), ym r5, ox_index rfl rfl trivial (oy rfl rfl) (oy rfl rfl) (fun w => ix_arr hj w) (fun _ => rfl), ox_load rfl rfl trivial (oy rfl rfl) (fun _ g => loadsAt (tyU8 (b : Int)) (by simpa using bv_range (o := 0) (rangeAt_row (row_of g HB3_3 (by simp))) hyb)) (fun _ => rfl), ybt r7 (fun _ => rn_neq (by simpa using fun e => hab (by omega))), trivial⟩ fun a19 w19 g19 sv19 => ?_
     refine k15 _ _ ?_
     refine cx_ifT sv19 rfl rfl ?_
     refine wp_seq_k fun K20 k20 => ?_
     replace HB2_2 := rw_kn g19 HB2_2
     replace HB3_3 := rw_kn g19 HB3_3
     replace HG := grown_trans HG g19
     refine rx_av sv19 [(17, .int .i64 ((j : Int))), (18, pk B2_2 j), (19, .int .u8 ((a : Int))), (20, .int .i64 ((j : Int))), (21, pk B3_3 j), (22, .int .u8 ((b : Int))), (23, .bool (decide (a < b))), (4, .bool (decide (a < b)))]
       ⟨ym r5, ox_index rfl rfl trivial (oy rfl rfl) (oy rfl rfl) (fun w => ix_arr hj w) (fun _ => rfl), ox_load rfl rfl trivial (oy rfl rfl) (fun _ g => loadsAt (tyU8 (a : Int)) (by simpa using bv_range (o := 0) (rangeAt_row (row_of g HB2_2 (by simp))) hxa)) (fun _ => rfl), ym r5, ox_index rfl rfl trivial (oy rfl rfl) (oy rfl rfl) (fun w => ix_arr hj w) (fun _ => rfl), ox_load rfl rfl trivial (oy rfl rfl) (fun _ g => loadsAt (tyU8 (b : Int)) (by simpa using bv_range (o := 0) (rangeAt_row (row_of g HB3_3 (by simp))) hyb)) (fun _ => rfl), ybt r7 (fun _ => rn_lss (by simp)), ox_move 23 4 (.inr rfl) rfl rfl trivial (fun _ _ h => h), trivial⟩ fun a21 w21 g21 sv21 => ?_
     refine k20 _ _ ?_
     replace HB2_2 := rw_kn g21 HB2_2
     replace HB3_3 := rw_kn g21 HB3_3
     replace HG := grown_trans HG g21
     refine wp_ret ?_
     repeat refine then_ret ?_
     refine r14 _ _ ?_
     repeat refine then_ret ?_
     refine r8 _ _ ?_
     repeat refine then_ret ?_
     refine cx_ret (fn := Try.f77) sv21 (res_tmp (p := 4) Try.results77 sv21 rfl rfl) ?_
     exact ⟨congrArg (fun b => Ending.returned (.bool b)) (blt_step heq hxa hyb hab).symm, HG⟩
 · have hje : j = 32 := by omega
   refine wp_region_lit ?_
   refine sx_hv sv9 2 [(6, .int .i64 ((j : Int))), (7, .bool false)]
     ⟨ym r5, ybc r6 (fun _ => rn_lss (by simp; omega)), trivial⟩ fun a22 w22 g22 sv22 => ?_
   refine tl_nil ?_
   refine k11 _ _ ?_
   refine cx_ifF sv22 rfl rfl ?_
   refine wp_exit ?_
   repeat refine then_exit ?_
   refine x8 _ _ ?_
   refine k5 _ _ ?_
   refine wp_seq_k fun K23 k23 => ?_
   refine wp_region_lit ?_
   refine tl_as (v := .bool false) sv22 r6 fun a24 sv24 => ?_
   refine tl_nil ?_
   refine k23 _ _ ?_
   replace HB2_2 := rw_kn g22 HB2_2
   replace HB3_3 := rw_kn g22 HB3_3
   replace HG := grown_trans HG g22
   refine wp_ret ?_
   repeat refine then_ret ?_
   refine cx_ret (fn := Try.f77) sv24 (res_tmp (p := 4) Try.results77 sv24 rfl rfl) ?_
   exact ⟨congrArg (fun b => Ending.returned (.bool b)) (blt_same hx.1 hy.1 (hje ▸ heq)).symm, HG⟩
end Go.Proofs.Yteakoleceoclkaa
