/- Vaults: Owner; the plain law of KeytreeOwners. (printed by gen_ve.py) -/
import Derived.Test.YteakoleceoclkaaPV
namespace Go.Proofs.Yteakoleceoclkaa
open Go.RowKit Go.Shelf
set_option linter.unusedSimpArgs false
set_option linter.unusedVariables false
theorem andp (m : Nat) (hm : m < 9223372036854775808) (n : Int) (h63 : (BitVec.ofInt 64 (m : Int)).toNat = m) : ∃ k : Nat, k ≤ m ∧ bits .and .i64 n (m : Int) = (k : Int) := by
 have h : bits .and .i64 n (m : Int) = IntKind.i64.wrap (((BitVec.ofInt 64 n) &&& (BitVec.ofInt 64 (m : Int))).toNat : Int) := rfl
 have h2 : ((BitVec.ofInt 64 n) &&& (BitVec.ofInt 64 (m : Int))).toNat ≤ m := by rw [BitVec.toNat_and, h63]; exact Nat.and_le_right
 exact ⟨_, h2, by rw [h]; exact wrap_i64 (by omega) (by omega)⟩
def own4 (n : Int) : List Nat := (200 * (bits .and .i64 n 1).toNat) :: (zs 30 ++ [(bits .and .i64 (n / 2) 1).toNat])
theorem and1 (n : Int) : ∃ k : Nat, k ≤ 1 ∧ bits .and .i64 n 1 = (k : Int) := andp 1 (by decide) n (by decide)
theorem own4_dg (n : Int) : Dg (own4 n) := by
 obtain ⟨a, ha, ea⟩ := and1 n
 obtain ⟨b, hb, eb⟩ := and1 (n / 2)
 unfold own4
 rw [ea, eb]
 refine ⟨rfl, fun x hx => ?_⟩
 simp [zs] at hx
 omega
theorem bDg2 (a b : Nat) (w : World) : (Instr.build 29 #[(0, .int .u8 (a : Int)), (31, .int .u8 (b : Int))]).run Try.prog w = .ok (dval (a :: (zs 30 ++ [b]))) w := by kernel_rfl
theorem rn_shr2 {P : Program} {a c : Int} {t : TypeId} {x y : Operand} {w : World} (h : a / 2 = c) : (do eqGuard .shr t x y (.int .i64 a) (.int .u64 1); binOp .shr t (.int .i64 a) (.int .u64 1) : Sem Value).run P w = .ok (.int .i64 c) w := by
 subst h
 have : min 1 IntKind.i64.bits = 1 := by decide
 simp [eqGuard, binOp_shr, shift_shr_any, this]
set_option maxRecDepth 100000 in
set_option maxHeartbeats 4000000 in
theorem owner_walk (n : Int) (w : World) :
   Calls Try.prog 51 #[.int .i64 n] w fun e w' => e = .returned (dval (own4 n)) ∧ w.grownBy w' none := by
 obtain ⟨p, hp, ep⟩ := and1 n
 obtain ⟨q, hq, eq⟩ := and1 (n / 2)
 have hdg : Dg ((200 * p) :: (zs 30 ++ [q])) := by have := own4_dg n; unfold own4 at this; rw [ep, eq] at this; exact this
 have hval : own4 n = (200 * p) :: (zs 30 ++ [q]) := by unfold own4; rw [ep, eq]; rfl
 refine cx_enter Try.func51 rfl Try.ntmps51 rfl fun a0 sv0 => ?_
 have HG := World.grownBy.refl w none
 replace sv0 : Sv 12 [] [(0, .int .i64 n)] a0 := sv0
 refine wp_seq_k fun K1 k1 => ?_
 refine wp_region_lit ?_
 refine tl_alloc (T := 29) (Z := (bv zero32)) sv0 rfl rfl rfl (fun a w => by kernel_rfl) fun a2 w2 B2_2 eq_B2_2 g2 z2 HB2_2 sv2 => ?_
 have lo_B2_2 := nb_lo HG eq_B2_2
 replace HG := grown_trans HG g2
 replace sv2 : Sv 12 [] [(2, .pointer (some ⟨B2_2, 0, none⟩)), (0, .int .i64 n)] a2 := sv2
 refine tl_nil ?_
 refine k1 _ _ ?_
 refine wp_seq_k fun K3 k3 => ?_
 refine wp_region_lit ?_
 refine sx_head (sv2.st w2) 9 [(3, Sp.is (.int .i64 n)), (4, Sp.is (.int .i64 ((p : Int)))), (5, Sp.is (.int .i64 (((200 * p : Nat) : Int)))), (6, Sp.is (.int .u8 (((200 * p : Nat) : Int)))), (7, Sp.is (.int .i64 n)), (8, Sp.is (.int .i64 ((n / 2)))), (9, Sp.is (.int .i64 ((q : Int)))), (10, Sp.is (.int .u8 ((q : Int)))), (11, Sp.is (dval (((200 * p) :: (zs 30 ++ [q])))))] rfl (by kernel_rfl) (by kernel_rfl) (by kernel_rfl)
   ⟨xm rfl rfl rfl rfl rfl, ox_bin rfl rfl trivial (oy rfl rfl) rfl (fun _ => rn_and ep) (fun _ => rfl), ox_bin rfl rfl trivial (oy rfl rfl) rfl (fun _ => rn_mul (by rw [wrap_i64 (by omega) (by omega)]; omega)) (fun _ => rfl), ox_conv rfl rfl trivial (oy rfl rfl) (fun _ => rn_conv Try.underlying3 Try.underlying5 (wrap_u8 (by omega) (by omega))) (fun _ => rfl), xm rfl rfl rfl rfl rfl, ox_bin rfl rfl trivial (oy rfl rfl) rfl (fun _ => rn_shr2 rfl) (fun _ => rfl), ox_bin rfl rfl trivial (oy rfl rfl) rfl (fun _ => rn_and eq) (fun _ => rfl), ox_conv rfl rfl trivial (oy rfl rfl) (fun _ => rn_conv Try.underlying3 Try.underlying5 (wrap_u8 (by omega) (by omega))) (fun _ => rfl), ox_build (vs := [.int .u8 (((200 * p : Nat) : Int)), .int .u8 ((q : Int))]) rfl rfl trivial ⟨(oy rfl rfl), (oy rfl rfl), trivial⟩ (fun _ => bDg2 (200 * p) q _) (fun _ => rfl), trivial⟩ fun a4 w4 g4 st4 => ?_
 obtain ⟨hn4, hd4, e4_3, e4_4, e4_5, e4_6, e4_7, e4_8, e4_9, e4_10, e4_11, e4_2, e4_0, -⟩ := st4
 replace HB2_2 := rw_kn g4 HB2_2
 replace HG := grown_trans HG g4
 have sv4 : Sv 12 [] [(2, .pointer (some ⟨B2_2, 0, none⟩)), (0, .int .i64 n), (11, dval (((200 * p) :: (zs 30 ++ [q]))))] a4 := ⟨hn4, hd4, e4_2, e4_0, e4_11, trivial⟩
 refine tl_storeW sv4 rfl rfl rfl rfl rfl rfl rfl (tyD (((200 * p) :: (zs 30 ++ [q]))) hdg.1) HB2_2 (lenD hdg) fun w5 g5 h5 => ?_
 replace HG := grown_newR HG g5 lo_B2_2
 replace HB2_2 := h5
 have sv6 : Sv 12 [] [(2, .pointer (some ⟨B2_2, 0, none⟩))] a4 := ⟨sv4.1, sv4.2.1, sv4.2.2.1, trivial⟩
 refine tl_nil ?_
 refine k3 _ _ ?_
 refine wp_ret ?_
 repeat refine then_ret ?_
 refine cx_ret (fn := Try.f51) sv6 (res_cell (p := 2) Try.results51 sv6 rfl rfl (tyD (((200 * p) :: (zs 30 ++ [q]))) hdg.1) HB2_2) ?_
 exact ⟨congrArg (fun x => Ending.returned (dval x)) hval.symm, HG⟩
def ow (j : Nat) : List Nat := own4 (j : Int)
theorem ow_ne {i j : Nat} (hi : i < 3) (hj : j < 3) (h : ow i = ow j) : i = j := by
 have : i = 0 ∨ i = 1 ∨ i = 2 := by omega
 have : j = 0 ∨ j = 1 ∨ j = 2 := by omega
 rcases ‹i = 0 ∨ i = 1 ∨ i = 2› with rfl | rfl | rfl <;> rcases ‹j = 0 ∨ j = 1 ∨ j = 2› with rfl | rfl | rfl <;> first | rfl | (exfalso; revert h; decide +kernel)
def OInv (T : Nat → List Nd) (P : List VP) (i : Nat) : Prop := vldV P = true ∧ P.length = i ∧ ∀ x, x ∈ P ↔ ∃ j, j < i ∧ x = (ow j, T j)
theorem OInv.zero (T : Nat → List Nd) : OInv T [] 0 := ⟨rfl, rfl, by simp⟩
section
variable {T : Nat → List Nd} {P : List VP} {i : Nat}
theorem OInv.not (h : OInv T P i) (hi : i < 3) : fnd P (ow i) = false := fnd_not (Srt.of h.1) fun hm => by
 obtain ⟨x, hx, e⟩ := List.mem_map.1 hm
 obtain ⟨j, hj, rfl⟩ := (h.2.2 x).1 hx
 have := ow_ne (by omega) hi e
 omega
theorem OInv.succ (h : OInv T P i) (hi : i < 3) (hT : ∀ j, vld (T j) = true) : OInv T (insV P (ow i) (T i)) (i + 1) := by
 refine ⟨insV_vld h.1 (h.not hi) (by rw [h.2.1]; omega) (hT i), by rw [ins_len, h.2.1], fun x => ?_⟩
 rw [mem_ins, h.2.2 x]
 constructor
 · rintro (rfl | ⟨j, hj, rfl⟩)
   · exact ⟨i, by omega, rfl⟩
   · exact ⟨j, by omega, rfl⟩
 · rintro ⟨j, hj, rfl⟩
   by_cases e : j = i
   · subst e; exact .inl rfl
   · exact .inr ⟨j, by omega, rfl⟩
theorem OInv.tr (h : OInv T P i) {j : Nat} (hj : j < i) : fnd P (ow j) = true ∧ Go.Proofs.Yteakoleceoclkaa.tr P (pos P (ow j)) = T j := tr_uniq (Srt.of h.1) ((h.2.2 _).2 ⟨j, hj, rfl⟩)
end
theorem OInv.after (T : Nat → List Nd) {P : List VP} (h : OInv T P 3) (t : List Nd) (ht : vld t = true) :
   (vldV (setV P (ow 1) t) = true ∧ ∀ j, j < 3 → (fnd (setV P (ow 1) t) (ow j) = true ∧ Go.Proofs.Yteakoleceoclkaa.tr (setV P (ow 1) t) (pos (setV P (ow 1) t) (ow j)) = if j = 1 then t else T j)) ∧
   (vldV (dropV P (ow 1)) = true ∧ fnd (dropV P (ow 1)) (ow 1) = false ∧ ∀ j, j < 3 → j ≠ 1 → (fnd (dropV P (ow 1)) (ow j) = true ∧ Go.Proofs.Yteakoleceoclkaa.tr (dropV P (ow 1)) (pos (dropV P (ow 1)) (ow j)) = T j)) := by
 have hs := Srt.of h.1
 have h1 := h.tr (j := 1) (by omega)
 have hv1 := setV_vld h.1 h1.1 ht
 have hv2 := dropV_vld h.1 h1.1
 refine ⟨⟨hv1, fun j hj => tr_uniq (Srt.of hv1) ((mem_set hs h1.1).2 ?_)⟩, hv2, fnd_not (Srt.of hv2) fun hm => ?_, fun j hj hne => tr_uniq (Srt.of hv2) ((mem_drp_iff hs h1.1).2 ⟨(h.2.2 _).2 ⟨j, hj, rfl⟩, fun e => hne (ow_ne hj (by omega) e)⟩)⟩
 · by_cases e : j = 1
   · subst e; exact .inl (by rw [if_pos rfl])
   · rw [if_neg e]
     exact .inr ⟨(h.2.2 _).2 ⟨j, hj, rfl⟩, fun e2 => e (ow_ne hj (by omega) e2)⟩
 · obtain ⟨x, hx, e⟩ := List.mem_map.1 hm
   exact ((mem_drp_iff hs h1.1).1 hx).2 e
end Go.Proofs.Yteakoleceoclkaa
