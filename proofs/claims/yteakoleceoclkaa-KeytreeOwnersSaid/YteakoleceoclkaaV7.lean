/- Vaults: nodes cloned, a vault cloned. (printed by gen_v7.py) -/
import Derived.Test.YteakoleceoclkaaSH
namespace Go.Proofs.Yteakoleceoclkaa
open Go.RowKit Go.Shelf
set_option linter.unusedSimpArgs false
set_option linter.unusedVariables false
theorem tcells_all (l : List Nd) : (tcells l).all Value.oneCell' = true := tcells_one' l
set_option maxRecDepth 100000 in
set_option maxHeartbeats 4000000 in
theorem clone_nil  (w : World) :
    Calls Try.prog 90 #[.slice none 0 0] w fun e w' => e = .returned (.slice none 0 0) ∧ w.grownBy w' none := by
  refine cx_enter Try.func90 rfl Try.ntmps90 rfl fun a0 sv0 => ?_
  have HG := World.grownBy.refl w none
  replace sv0 : Sv 8 [] [(0, .slice none 0 0)] a0 := sv0
  refine wp_seq_k fun K1 k1 => ?_
  refine wp_region_lit ?_
  refine tl_assign sv0 rfl (.inl rfl) rfl rfl rfl rfl fun a2 sv2 => ?_
  replace sv2 : Sv 8 [] [(2, .slice none 0 0), (0, .slice none 0 0)] a2 := sv2
  refine tl_nil ?_
  refine k1 _ _ ?_
  refine wp_seq_k fun K3 k3 => ?_
  refine wp_seq_k fun K4 k4 => ?_
  refine wp_region_lit ?_
  refine sx_head (sv2.st w) 2 [(3, Sp.is (.slice none 0 0)), (4, Sp.is (.bool true))] rfl (by kernel_rfl) (by kernel_rfl) (by kernel_rfl)
    ⟨xm rfl rfl rfl rfl rfl, ox_bin rfl rfl trivial (oy rfl rfl) rfl (fun _ => rn_nil Try.underlying32 rfl) (fun _ => rfl), trivial⟩ fun a5 w5 g5 st5 => ?_
  obtain ⟨hn5, hd5, e5_3, e5_4, e5_2, e5_0, -⟩ := st5
  replace HG := grown_trans HG g5
  have sv5 : Sv 8 [] [(2, .slice none 0 0), (0, .slice none 0 0), (4, .bool true)] a5 := ⟨hn5, hd5, e5_2, e5_0, e5_4, trivial⟩
  refine tl_nil ?_
  refine k4 _ _ ?_
  refine cx_ifT sv5 rfl rfl ?_
  refine wp_seq_k fun K6 k6 => ?_
  refine wp_region_lit ?_
  refine tl_assign sv5 rfl (.inl rfl) rfl rfl rfl rfl fun a7 sv7 => ?_
  replace sv7 : Sv 8 [] [(2, .slice none 0 0), (0, .slice none 0 0), (4, .bool true)] a7 := sv7
  refine tl_nil ?_
  refine k6 _ _ ?_
  refine wp_ret ?_
  repeat refine then_ret ?_
  refine cx_ret (fn := Try.f90) sv7 (res_tmp (p := 2) Try.results90 sv7 rfl rfl) ?_
  exact ⟨rfl, HG⟩
set_option maxRecDepth 100000 in
set_option maxHeartbeats 4000000 in
theorem clone_some (l : List Nd) (ad : Addr) (cap : Nat) (w : World) (h : RdT w (.slice ((some ad)) l.length cap) l) :
    Calls Try.prog 90 #[.slice ((some ad)) l.length cap] w fun e w' => ∃ ao cap, e = .returned (.slice ao l.length cap) ∧ RdTg w' (.slice ao l.length cap) l ∧ (∀ k, fpS (.slice ao l.length cap) k → w.heap.size ≤ k) ∧ w.grownBy w' none := by
  refine cx_enter Try.func90 rfl Try.ntmps90 rfl fun a0 sv0 => ?_
  have HG := World.grownBy.refl w none
  replace sv0 : Sv 8 [] [(0, .slice ((some ad)) l.length cap)] a0 := sv0
  refine wp_seq_k fun K1 k1 => ?_
  refine wp_region_lit ?_
  refine tl_assign sv0 rfl (.inl rfl) rfl rfl rfl rfl fun a2 sv2 => ?_
  replace sv2 : Sv 8 [] [(2, .slice none 0 0), (0, .slice ((some ad)) l.length cap)] a2 := sv2
  refine tl_nil ?_
  refine k1 _ _ ?_
  refine wp_seq_k fun K3 k3 => ?_
  refine wp_seq_k fun K4 k4 => ?_
  refine wp_region_lit ?_
  refine sx_head (sv2.st w) 2 [(3, Sp.is (.slice ((some ad)) l.length cap)), (4, Sp.is (.bool false))] rfl (by kernel_rfl) (by kernel_rfl) (by kernel_rfl)
    ⟨xm rfl rfl rfl rfl rfl, ox_bin rfl rfl trivial (oy rfl rfl) rfl (fun _ => rn_nil Try.underlying32 rfl) (fun _ => rfl), trivial⟩ fun a5 w5 g5 st5 => ?_
  obtain ⟨hn5, hd5, e5_3, e5_4, e5_2, e5_0, -⟩ := st5
  replace h := h.kn g5
  replace HG := grown_trans HG g5
  have sv5 : Sv 8 [] [(2, .slice none 0 0), (0, .slice ((some ad)) l.length cap), (4, .bool false)] a5 := ⟨hn5, hd5, e5_2, e5_0, e5_4, trivial⟩
  refine tl_nil ?_
  refine k4 _ _ ?_
  refine cx_ifF sv5 rfl rfl ?_
  refine wp_skip ?_
  refine k3 _ _ ?_
  refine wp_seq_k fun K6 k6 => ?_
  refine wp_region_lit ?_
  refine sx_head (sv5.st w5) 3 [(5, Sp.lit0 w5.heap.size 91), (6, Sp.is (.slice ((some ad)) l.length cap)), (7, Sp.row w5.heap.size 91 34 l.length (tcells l))] rfl (by kernel_rfl) (by kernel_rfl) (by kernel_rfl)
    ⟨ox_lit0 (t := 0) rfl trivial (Nat.le_refl _) (fun a w => by kernel_rfl) (fun _ _ h => h), xm rfl rfl rfl rfl rfl, ox_app0 (news := tcells l) nodesT rfl rfl trivial rfl (fun _ _ h => h) (oy rfl rfl) (fun _ g => (h.kn g).1) (tcells_all l) h.2.2.2 (Nat.le_refl _) (fun _ _ h => h), trivial⟩ fun a7 w7 g7 st7 => ?_
  obtain ⟨hn7, hd7, e7_5, e7_6, e7_7, e7_2, e7_0, e7_4, -⟩ := st7
  obtain ⟨ao8, cap8, e7_7q, ow8, fr8⟩ := e7_7
  have ap_h_ow8 : ∀ k, fpS (.slice ((some ad)) l.length cap) k → ¬ fpS (.slice ao8 l.length cap8) k := fun k hzr hk => absurd (h.lt k hzr) (Nat.not_lt.2 (fr8 k hk))
  have lo_ow8 : ∀ k, fpS (.slice ao8 l.length cap8) k → w.heap.size ≤ k := fun k hk => Nat.le_trans HG.size (fr8 k hk)
  replace h := h.kn g7
  replace HG := grown_trans HG g7
  have sv7 : Sv 8 [] [(2, .slice none 0 0), (0, .slice ((some ad)) l.length cap), (4, .bool false), (7, .slice ao8 l.length cap8)] a7 := ⟨hn7, hd7, e7_2, e7_0, e7_4, e7_7q, trivial⟩
  refine tl_assign sv7 rfl (.inl rfl) rfl rfl rfl rfl fun a9 sv9 => ?_
  replace sv9 : Sv 8 [] [(2, .slice ao8 l.length cap8), (0, .slice ((some ad)) l.length cap), (4, .bool false), (7, .slice ao8 l.length cap8)] a9 := sv9
  have sv10 : Sv 8 [] [(2, .slice ao8 l.length cap8), (0, .slice ((some ad)) l.length cap), (4, .bool false)] a9 := ⟨sv9.1, sv9.2.1, sv9.2.2.1, sv9.2.2.2.1, sv9.2.2.2.2.1, trivial⟩
  refine tl_nil ?_
  refine k6 _ _ ?_
  refine wp_ret ?_
  repeat refine then_ret ?_
  refine cx_ret (fn := Try.f90) sv10 (res_tmp (p := 2) Try.results90 sv10 rfl rfl) ?_
  exact ⟨_, _, rfl, ⟨⟨Sl.of_own ow8, h.2.1, Own.lt ow8, h.2.2.2⟩, Tag.of ow8⟩, lo_ow8, HG⟩
theorem clone_walk {l : List Nd} {s : Value} {w : World} (h : RdT w s l) : Calls Try.prog 90 #[s] w fun e w' => ∃ ao cap, e = .returned (.slice ao l.length cap) ∧ RdTg w' (.slice ao l.length cap) l ∧ (∀ k, fpS (.slice ao l.length cap) k → w.heap.size ≤ k) ∧ w.grownBy w' none := by
  obtain ⟨ao, cap, rfl⟩ := h.shape
  cases ao with
  | some ad => exact clone_some l ad cap w h
  | none =>
    have h0 : l.length = 0 ∧ cap = 0 := by
      obtain ⟨⟨_, ao', cap', e, h1, _, h3, _⟩, _⟩ := h
      simp only [Value.slice.injEq, true_and] at e
      obtain ⟨rfl, rfl⟩ := e
      have := h3 rfl
      omega
    obtain ⟨h1, rfl⟩ := h0
    obtain rfl : l = [] := List.eq_nil_of_length_eq_zero h1
    exact (clone_nil w).mono fun e w' ⟨h1, h2⟩ => ⟨none, 0, h1, ⟨h.kn h2, fun k hk => by simp [fpS, Value.ownBlock] at hk⟩, fun k hk => by simp [fpS, Value.ownBlock] at hk, h2⟩
theorem clone_on {w0 : World} {l : List Nd} {s : Value} (h : RdT w0 s l) : ∀ W, w0.grownBy W none → Calls Try.prog 90 #[s] W fun e W' => ∃ v, e = .returned v ∧ W.grownBy W' none ∧ (Sp.cl w0.heap.size l).on W' v := fun W g =>
  (clone_walk (h.kn g)).mono fun e W' ⟨ao, cap, h1, h2, h3, h4⟩ => ⟨_, h1, h4, ao, cap, rfl, h2, fun k hk => Nat.le_trans g.size (h3 k hk)⟩
set_option maxRecDepth 100000 in
set_option maxHeartbeats 4000000 in
theorem cloned_walk (ks : List VK) (ao : Option Addr) (cap : Nat) (sa po : List Nat) (hsa : Dg sa) (hpo : Dg po) (w : World) (hr : RdK w (.slice ao ks.length cap) ks) (h64 : ks.length ≤ 64) :
    Calls Try.prog 69 #[vval sa po (.slice ao ks.length cap)] w fun e w' => ∃ A ms, e = .returned (vval sa po (.slice (some ⟨A, 0, none⟩) ks.length ks.length)) ∧ ms.map VK.p = ks.map VK.p ∧ Own w' 65 33 (.slice (some ⟨A, 0, none⟩) ks.length ks.length) ks.length (ms.flatMap kcells) ∧ KsT w' ms ∧ w.heap.size ≤ A ∧ (∀ k, fpKs ms k → w.heap.size ≤ k ∧ k ≠ A) ∧ w.grownBy w' none := by
  refine cx_enter Try.func69 rfl Try.ntmps69 rfl fun a0 sv0 => ?_
  have HG := World.grownBy.refl w none
  replace sv0 : Sv 33 [] [(0, vval sa po (.slice ao ks.length cap))] a0 := sv0
  refine wp_seq_k fun K1 k1 => ?_
  refine wp_region_lit ?_
  refine tl_box sv0 rfl rfl rfl rfl rfl rfl (tyVa hsa hpo (.slice ao ks.length cap) rfl) fun a2 w2 B1_2 eq_B1_2 g2 z2 HB1_2 sv2 => ?_
  have lo_B1_2 := nb_lo HG eq_B1_2
  have ap_hr_B1_2 := nb_ap (hr.lt) eq_B1_2
  replace hr := hr.kn g2
  replace HG := grown_trans HG g2
  replace sv2 : Sv 33 [] [(1, .pointer (some ⟨B1_2, 0, none⟩)), (0, vval sa po (.slice ao ks.length cap))] a2 := sv2
  refine tl_alloc (T := 58) (Z := ([bv zero32, bv zero32, [.slice none 0 0]].flatten)) sv2 rfl rfl rfl (fun a w => by kernel_rfl) fun a3 w3 B2_3 eq_B2_3 g3 z3 HB2_3 sv3 => ?_
  have ne_B2_3_B1_2 := nb_ne HB1_2 eq_B2_3
  have lo_B2_3 := nb_lo HG eq_B2_3
  have ap_hr_B2_3 := nb_ap (hr.lt) eq_B2_3
  replace HB1_2 := rw_kn g3 HB1_2
  replace hr := hr.kn g3
  replace HG := grown_trans HG g3
  replace sv3 : Sv 33 [] [(2, .pointer (some ⟨B2_3, 0, none⟩)), (1, .pointer (some ⟨B1_2, 0, none⟩)), (0, vval sa po (.slice ao ks.length cap))] a3 := sv3
  have sv4 : Sv 33 [] [(2, .pointer (some ⟨B2_3, 0, none⟩)), (1, .pointer (some ⟨B1_2, 0, none⟩))] a3 := ⟨sv3.1, sv3.2.1, sv3.2.2.1, sv3.2.2.2.1, trivial⟩
  refine tl_nil ?_
  refine k1 _ _ ?_
  refine wp_seq_k fun K5 k5 => ?_
  refine wp_region_lit ?_
  refine sx_head (sv4.st w3) 4 [(6, Sp.is (.pointer (some ⟨B1_2, 64, none⟩))), (7, Sp.is (.slice ao ks.length cap)), (8, Sp.is (.int .i64 ((ks.length : Nat)))), (9, Sp.made w3.heap.size 65 33 ks.length ((List.replicate ks.length zkey).flatMap kcells))] rfl (by kernel_rfl) (by kernel_rfl) (by kernel_rfl)
    ⟨xf rfl rfl rfl rfl rfl (fun _ => by kernel_rfl) rfl, xp (i := 2) rfl rfl rfl rfl rfl (tyKs (.slice ao ks.length cap) rfl) HB1_2 rfl (by simp [bv_length, zero32_len, hsa.1, hpo.1]) rfl, ox_len (Try.underlying56) rfl rfl trivial (oy rfl rfl) (fun _ => rfl), ox_make (m := ks.length) (xs := (List.replicate ks.length zkey).flatMap kcells) keysT rfl rfl trivial (Nat.le_refl _) (oy rfl rfl) (by omega) (zkeys _).symm (fun _ _ h => h), trivial⟩ fun a6 w6 g6 st6 => ?_
  obtain ⟨hn6, hd6, e6_6, e6_7, e6_8, e6_9, e6_2, e6_1, -⟩ := st6
  obtain ⟨A, e6_9q, ow, geA⟩ := e6_9
  have frA : ∀ k, fpS (.slice ((some ⟨A, 0, none⟩)) ks.length ks.length) k → w3.heap.size ≤ k := fun k hk => (Option.some.inj hk) ▸ geA
  have ap_ow_B1_2 := fr_ap frA HB1_2
  have ap_ow_B2_3 := fr_ap frA HB2_3
  have ap_hr_ow : ∀ k, fpK (.slice ao ks.length cap) ks k → ¬ fpS (.slice ((some ⟨A, 0, none⟩)) ks.length ks.length) k := fun k hzr hk => absurd (hr.lt k hzr) (Nat.not_lt.2 (frA k hk))
  have lo_ow : ∀ k, fpS (.slice ((some ⟨A, 0, none⟩)) ks.length ks.length) k → w.heap.size ≤ k := fun k hk => Nat.le_trans HG.size (frA k hk)
  replace HB1_2 := rw_kn g6 HB1_2
  replace HB2_3 := rw_kn g6 HB2_3
  replace hr := hr.kn g6
  replace HG := grown_trans HG g6
  have sv6 : Sv 33 [] [(2, .pointer (some ⟨B2_3, 0, none⟩)), (1, .pointer (some ⟨B1_2, 0, none⟩)), (9, .slice ((some ⟨A, 0, none⟩)) ks.length ks.length)] a6 := ⟨hn6, hd6, e6_2, e6_1, e6_9q, trivial⟩
  refine tl_assign sv6 rfl (.inl rfl) rfl rfl rfl rfl fun a7 sv7 => ?_
  replace sv7 : Sv 33 [] [(3, .slice ((some ⟨A, 0, none⟩)) ks.length ks.length), (2, .pointer (some ⟨B2_3, 0, none⟩)), (1, .pointer (some ⟨B1_2, 0, none⟩)), (9, .slice ((some ⟨A, 0, none⟩)) ks.length ks.length)] a7 := sv7
  have sv8 : Sv 33 [] [(3, .slice ((some ⟨A, 0, none⟩)) ks.length ks.length), (2, .pointer (some ⟨B2_3, 0, none⟩)), (1, .pointer (some ⟨B1_2, 0, none⟩))] a7 := ⟨sv7.1, sv7.2.1, sv7.2.2.1, sv7.2.2.2.1, sv7.2.2.2.2.1, trivial⟩
  refine tl_nil ?_
  refine k5 _ _ ?_
  refine wp_seq_k fun K9 k9 => ?_
  refine wp_seq_k fun K10 k10 => ?_
  refine wp_region_lit ?_
  refine sx_head (sv8.st w6) 4 [(10, Sp.is (.pointer (some ⟨B1_2, 64, none⟩))), (11, Sp.is (.slice ao ks.length cap)), (12, Sp.is (.int .i64 ((ks.length : Nat)))), (13, Sp.is (.int .i64 0))] rfl (by kernel_rfl) (by kernel_rfl) (by kernel_rfl)
    ⟨xf rfl rfl rfl rfl rfl (fun _ => by kernel_rfl) rfl, xp (i := 2) rfl rfl rfl rfl rfl (tyKs (.slice ao ks.length cap) rfl) HB1_2 rfl (by simp [bv_length, zero32_len, hsa.1, hpo.1]) rfl, ox_len (Try.underlying56) rfl rfl trivial (oy rfl rfl) (fun _ => rfl), ox_const (.inl rfl) rfl trivial (fun _ => rfl), trivial⟩ fun a11 w11 g11 st11 => ?_
  obtain ⟨hn11, hd11, e11_10, e11_11, e11_12, e11_13, e11_3, e11_2, e11_1, -⟩ := st11
  replace HB1_2 := rw_kn g11 HB1_2
  replace HB2_3 := rw_kn g11 HB2_3
  replace hr := hr.kn g11
  replace ow := ow.kn g11
  replace HG := grown_trans HG g11
  have sv11 : Sv 33 [] [(3, .slice ((some ⟨A, 0, none⟩)) ks.length ks.length), (2, .pointer (some ⟨B2_3, 0, none⟩)), (1, .pointer (some ⟨B1_2, 0, none⟩)), (11, .slice ao ks.length cap), (12, .int .i64 ((ks.length : Nat))), (13, .int .i64 0)] a11 := ⟨hn11, hd11, e11_3, e11_2, e11_1, e11_11, e11_12, e11_13, trivial⟩
  refine tl_nil ?_
  refine k10 _ _ ?_
  refine cx_block fun Q12 x12 y12 r12 o12 => ?_
  have kr := KsT.rep w11 ks.length
  have ap_kr_B1_2 : ∀ k, fpKs (List.replicate ks.length zkey) k → k ≠ B1_2 := fun k hk => (fpKs_rep _ _ hk).elim
  have ap_kr_B2_3 : ∀ k, fpKs (List.replicate ks.length zkey) k → k ≠ B2_3 := fun k hk => (fpKs_rep _ _ hk).elim
  have ap_kr_ow : ∀ k, fpKs (List.replicate ks.length zkey) k → ¬ fpS (.slice ((some ⟨A, 0, none⟩)) ks.length ks.length) k := fun k hk => (fpKs_rep _ _ hk).elim
  refine wp_loop (fun a w' => ∃ (i : Nat) (ms : List VK), (i ≤ ks.length) ∧ (ms.length = ks.length) ∧ (∀ j, j < i → (ms.map VK.p)[j]? = (ks.map VK.p)[j]?) ∧ (∀ k, fpKs ms k → w.heap.size ≤ k) ∧ Sv 33 [] [(13, .int .i64 ((i : Int))), (3, .slice ((some ⟨A, 0, none⟩)) ks.length ks.length), (2, .pointer (some ⟨B2_3, 0, none⟩)), (1, .pointer (some ⟨B1_2, 0, none⟩)), (11, .slice ao ks.length cap), (12, .int .i64 ((ks.length : Nat)))] a ∧ w.grownBy w' none ∧ w'.heap[B1_2]? = some (.cells ([bv sa, bv po, [.slice ao ks.length cap]].flatten).toArray 58 (0, 0)) ∧ w'.heap[B2_3]? = some (.cells (([bv zero32, bv zero32, [.slice none 0 0]].flatten)).toArray 58 (0, 0)) ∧ RdK w' (.slice ao ks.length cap) ks ∧ Own w' 65 33 (.slice ((some ⟨A, 0, none⟩)) ks.length ks.length) ks.length (ms.flatMap kcells) ∧ KsT w' ms ∧ (∀ k, fpS (.slice ((some ⟨A, 0, none⟩)) ks.length ks.length) k → k ≠ B1_2) ∧ (∀ k, fpS (.slice ((some ⟨A, 0, none⟩)) ks.length ks.length) k → k ≠ B2_3) ∧ (∀ k, fpK (.slice ao ks.length cap) ks k → ¬ fpS (.slice ((some ⟨A, 0, none⟩)) ks.length ks.length) k) ∧ (∀ k, fpKs ms k → ¬ fpS (.slice ((some ⟨A, 0, none⟩)) ks.length ks.length) k) ∧ (∀ k, fpS (.slice ((some ⟨A, 0, none⟩)) ks.length ks.length) k → w.heap.size ≤ k) ∧ (∀ k, fpKs ms k → k ≠ B1_2) ∧ (∀ k, fpKs ms k → k ≠ B2_3)) (fun a _ => (ks.length - intOf (a.tmps.getD 13 undef)).toNat) ⟨0, List.replicate ks.length zkey, Nat.zero_le _, by simp, fun j hj => by omega, fun k hk => (fpKs_rep _ _ hk).elim, ⟨sv11.1, sv11.2.1, sv11.2.2.2.2.2.2.2.1, sv11.2.2.1, sv11.2.2.2.1, sv11.2.2.2.2.1, sv11.2.2.2.2.2.1, sv11.2.2.2.2.2.2.1, trivial⟩, HG, HB1_2, HB2_3, hr, ow, kr, ap_ow_B1_2, ap_ow_B2_3, ap_hr_ow, ap_kr_ow, lo_ow, ap_kr_B1_2, ap_kr_B2_3⟩ fun a13 w13 hI13 => ?_
  clear HB1_2
  clear HB2_3
  clear hr
  clear ow
  clear kr
  clear HG
  obtain ⟨i, ms, hin, hms, hp, hfr, sv13, HG, HB1_2, HB2_3, hr, ow, kr, ap_ow_B1_2, ap_ow_B2_3, ap_hr_ow, ap_kr_ow, lo_ow, ap_kr_B1_2, ap_kr_B2_3⟩ := hI13
  refine wp_seq_k fun K14 k14 => ?_
  by_cases hi : i < ks.length
  · obtain ⟨x, hx_x⟩ : ∃ x, ks[i]'hi = x := ⟨_, rfl⟩
    have him : i < ms.length := by omega
    obtain ⟨z, hx_z⟩ : ∃ x, ms[i]'him = x := ⟨_, rfl⟩
    refine wp_region_lit ?_
    refine sx_head (sv13.st w13) 1 [(14, Sp.is (.bool true))] rfl (by kernel_rfl) (by kernel_rfl) (by kernel_rfl)
      ⟨ox_bin rfl rfl trivial (oy rfl rfl) (oy rfl rfl) (fun _ => rn_lss (decide_eq_true (by omega))) (fun _ => rfl), trivial⟩ fun a15 w15 g15 st15 => ?_
    obtain ⟨hn15, hd15, e15_14, e15_13, e15_3, e15_2, e15_1, e15_11, e15_12, -⟩ := st15
    replace HB1_2 := rw_kn g15 HB1_2
    replace HB2_3 := rw_kn g15 HB2_3
    replace hr := hr.kn g15
    replace ow := ow.kn g15
    replace kr := kr.kn g15
    replace HG := grown_trans HG g15
    have sv15 : Sv 33 [] [(13, .int .i64 ((i : Int))), (3, .slice ((some ⟨A, 0, none⟩)) ks.length ks.length), (2, .pointer (some ⟨B2_3, 0, none⟩)), (1, .pointer (some ⟨B1_2, 0, none⟩)), (11, .slice ao ks.length cap), (12, .int .i64 ((ks.length : Nat))), (14, .bool true)] a15 := ⟨hn15, hd15, e15_13, e15_3, e15_2, e15_1, e15_11, e15_12, e15_14, trivial⟩
    refine tl_nil ?_
    refine k14 _ _ ?_
    refine wp_seq_k fun K16 k16 => ?_
    refine cx_ifT sv15 rfl rfl ?_
    refine wp_skip ?_
    refine k16 _ _ ?_
    refine wp_seq_k fun K17 k17 => ?_
    refine cx_block fun Q18 x18 y18 r18 o18 => ?_
    refine wp_seq_k fun K19 k19 => ?_
    refine wp_region_lit ?_
    refine sx_head (sv15.st w15) 3 [(15, Sp.is (.int .i64 ((i : Int)))), (16, Sp.is (.pointer (some ⟨(bO ao), oO ao + i * 33, none⟩))), (17, Sp.is (kval x))] rfl (by kernel_rfl) (by kernel_rfl) (by kernel_rfl)
      ⟨xm rfl rfl rfl rfl rfl, ox_index rfl rfl trivial (oy rfl rfl) (oy rfl rfl) (fun w => ix_sl Try.underlying56 (by kernel_rfl) (hr.1.1) (by omega) (rfl) w) (fun _ => rfl), ox_load rfl rfl trivial (oy rfl rfl) (fun _ g => loadsAt (tyK x) (RdK.keyX (hr.kn g) rfl hi hx_x)) (fun _ => rfl), trivial⟩ fun a20 w20 g20 st20 => ?_
    obtain ⟨hn20, hd20, e20_15, e20_16, e20_17, e20_13, e20_3, e20_2, e20_1, e20_11, e20_12, e20_14, -⟩ := st20
    replace HB1_2 := rw_kn g20 HB1_2
    replace HB2_3 := rw_kn g20 HB2_3
    replace hr := hr.kn g20
    replace ow := ow.kn g20
    replace kr := kr.kn g20
    replace HG := grown_trans HG g20
    have sv20 : Sv 33 [] [(13, .int .i64 ((i : Int))), (3, .slice ((some ⟨A, 0, none⟩)) ks.length ks.length), (2, .pointer (some ⟨B2_3, 0, none⟩)), (1, .pointer (some ⟨B1_2, 0, none⟩)), (11, .slice ao ks.length cap), (12, .int .i64 ((ks.length : Nat))), (14, .bool true), (15, .int .i64 ((i : Int))), (17, kval x)] a20 := ⟨hn20, hd20, e20_13, e20_3, e20_2, e20_1, e20_11, e20_12, e20_14, e20_15, e20_17, trivial⟩
    refine tl_alloc (T := 65) (Z := ([bv zero32, [.slice none 0 0]].flatten)) sv20 rfl rfl rfl (fun a w => by kernel_rfl) fun a21 w21 B5_21 eq_B5_21 g21 z21 HB5_21 sv21 => ?_
    have ne_B5_21_B1_2 := nb_ne HB1_2 eq_B5_21
    have ne_B5_21_B2_3 := nb_ne HB2_3 eq_B5_21
    have lo_B5_21 := nb_lo HG eq_B5_21
    have ap_hr_B5_21 := nb_ap (hr.lt) eq_B5_21
    have ap_ow_B5_21 := nb_ap (Own.ltS ow) eq_B5_21
    have ap_kr_B5_21 := nb_ap (kr.lt) eq_B5_21
    replace HB1_2 := rw_kn g21 HB1_2
    replace HB2_3 := rw_kn g21 HB2_3
    replace hr := hr.kn g21
    replace ow := ow.kn g21
    replace kr := kr.kn g21
    replace HG := grown_trans HG g21
    replace sv21 : Sv 33 [] [(5, .pointer (some ⟨B5_21, 0, none⟩)), (13, .int .i64 ((i : Int))), (3, .slice ((some ⟨A, 0, none⟩)) ks.length ks.length), (2, .pointer (some ⟨B2_3, 0, none⟩)), (1, .pointer (some ⟨B1_2, 0, none⟩)), (11, .slice ao ks.length cap), (12, .int .i64 ((ks.length : Nat))), (14, .bool true), (15, .int .i64 ((i : Int))), (17, kval x)] a21 := sv21
    refine tl_assign sv21 rfl (.inl rfl) rfl rfl rfl rfl fun a22 sv22 => ?_
    replace sv22 : Sv 33 [] [(4, .int .i64 ((i : Int))), (5, .pointer (some ⟨B5_21, 0, none⟩)), (13, .int .i64 ((i : Int))), (3, .slice ((some ⟨A, 0, none⟩)) ks.length ks.length), (2, .pointer (some ⟨B2_3, 0, none⟩)), (1, .pointer (some ⟨B1_2, 0, none⟩)), (11, .slice ao ks.length cap), (12, .int .i64 ((ks.length : Nat))), (14, .bool true), (15, .int .i64 ((i : Int))), (17, kval x)] a22 := sv22
    refine tl_storeW sv22 rfl rfl rfl rfl rfl rfl rfl (tyK x) HB5_21 (by first | rfl | simp [kcells, bv_length, zero32_len, x.ho.1]) fun w23 g23 h23 => ?_
    replace HB1_2 := rw_st g23 HB1_2 (Ne.symm ne_B5_21_B1_2)
    replace HB2_3 := rw_st g23 HB2_3 (Ne.symm ne_B5_21_B2_3)
    replace hr := hr.offR g23 (fun k hk e => ap_hr_B5_21 k hk (Option.some.inj e).symm)
    replace ow := ow.offR g23 (fun k hk e => ap_ow_B5_21 k hk (Option.some.inj e).symm)
    replace kr := kr.offR g23 (fun k hk e => ap_kr_B5_21 k hk (Option.some.inj e).symm)
    replace HG := grown_newR HG g23 lo_B5_21
    replace HB5_21 := h23
    have sv24 : Sv 33 [] [(4, .int .i64 ((i : Int))), (5, .pointer (some ⟨B5_21, 0, none⟩)), (13, .int .i64 ((i : Int))), (3, .slice ((some ⟨A, 0, none⟩)) ks.length ks.length), (2, .pointer (some ⟨B2_3, 0, none⟩)), (1, .pointer (some ⟨B1_2, 0, none⟩)), (11, .slice ao ks.length cap), (12, .int .i64 ((ks.length : Nat))), (14, .bool true)] a22 := ⟨sv22.1, sv22.2.1, sv22.2.2.1, sv22.2.2.2.1, sv22.2.2.2.2.1, sv22.2.2.2.2.2.1, sv22.2.2.2.2.2.2.1, sv22.2.2.2.2.2.2.2.1, sv22.2.2.2.2.2.2.2.2.1, sv22.2.2.2.2.2.2.2.2.2.1, sv22.2.2.2.2.2.2.2.2.2.2.1, trivial⟩
    refine tl_nil ?_
    refine k19 _ _ ?_
    refine rx_tail (sv24.st w23) (by kernel_rfl) 11 [(18, Sp.is (.slice ((some ⟨A, 0, none⟩)) ks.length ks.length)), (19, Sp.is (.int .i64 ((i : Int)))), (20, Sp.is (.pointer (some ⟨B5_21, 0, none⟩))), (21, Sp.is (dval x.o)), (22, Sp.is (.pointer (some ⟨B5_21, 32, none⟩))), (23, Sp.is (.pointer (some ⟨B5_21, 32, none⟩))), (24, Sp.is (VK.s x)), (25, Sp.cl w23.heap.size x.l), (26, Sp.ct w23.heap.size x.l), (27, Sp.ck w23.heap.size x.o x.l), (28, Sp.is (.pointer (some ⟨(bO ((some ⟨A, 0, none⟩))), oO ((some ⟨A, 0, none⟩)) + i * 33, none⟩)))] rfl (by kernel_rfl) (by kernel_rfl) (by kernel_rfl) [] (by kernel_rfl)
      ⟨xm rfl rfl rfl rfl rfl, xm rfl rfl rfl rfl rfl, xf rfl rfl rfl rfl rfl (fun _ => by kernel_rfl) rfl, xp (i := 0) rfl rfl rfl rfl rfl (tyD x.o x.ho.1) HB5_21 rfl rfl rfl, xf rfl rfl rfl rfl rfl (fun _ => by kernel_rfl) rfl, xf rfl rfl rfl rfl rfl (fun _ => by kernel_rfl) rfl, xp (i := 1) rfl rfl rfl rfl rfl (tyNs (VK.s x) rfl) HB5_21 rfl (by simp [bv_length, zero32_len, x.ho.1]) rfl, ox_call (Sp.cl w23.heap.size x.l) [VK.s x] rfl rfl trivial ⟨(oy rfl rfl), trivial⟩ (clone_on (hr.kt hi hx_x)) (fun _ _ h => h) (enter_of Try.func90 (by kernel_rfl) rfl), ox_buildY rfl rfl trivial rfl (fun W _ av h => match av, h with | [u], ⟨h1, _⟩ => ct_of h1), ox_buildY rfl rfl trivial rfl (fun W _ av h => match av, h with | [u, t], ⟨h1, h2, _⟩ => ck_of x.ho h1 h2), ox_index rfl rfl trivial (oy rfl rfl) (oy rfl rfl) (fun w => ix_sl Try.underlying56 (by kernel_rfl) (Sl.of_own ow) (by omega) (rfl) w) (fun _ => rfl), trivial⟩ trivial
      [] (by kernel_rfl) trivial ⟨.inl rfl, .inl rfl, .inl rfl, .inl rfl, .inl rfl, .inl rfl, .inl rfl, .inl rfl, .inl rfl, .inl rfl, .inl rfl, trivial⟩ (by kernel_rfl) fun a25 w25 g25 st25 nd25 => ?_
    obtain ⟨hn25, hd25, e25_18, e25_19, e25_20, e25_21, e25_22, e25_23, e25_24, e25_25, e25_26, e25_27, e25_28, e25_4, e25_5, e25_13, e25_3, e25_2, e25_1, e25_11, e25_12, e25_14, -⟩ := st25
    obtain ⟨y, e25_27q, hyo, hyl, rt, frB⟩ := e25_27
    have HG0 := HG
    have ap_rt_B1_2 := fr_ap frB HB1_2
    have ap_rt_B2_3 := fr_ap frB HB2_3
    have ap_rt_B5_21 := fr_ap frB HB5_21
    have ap_rt_ow : ∀ k, fpS (VK.s y) k → ¬ fpS (.slice ((some ⟨A, 0, none⟩)) ks.length ks.length) k := fun k hk hzr => absurd (Own.ltS ow k hzr) (Nat.not_lt.2 (frB k hk))
    have lo_rt : ∀ k, fpS (VK.s y) k → w.heap.size ≤ k := fun k hk => Nat.le_trans HG.size (frB k hk)
    replace HB1_2 := rw_kn g25 HB1_2
    replace HB2_3 := rw_kn g25 HB2_3
    replace HB5_21 := rw_kn g25 HB5_21
    replace hr := hr.kn g25
    replace ow := ow.kn g25
    replace kr := kr.kn g25
    replace HG := grown_trans HG g25
    have sv25 : Sv 33 [] [(4, .int .i64 ((i : Int))), (5, .pointer (some ⟨B5_21, 0, none⟩)), (13, .int .i64 ((i : Int))), (3, .slice ((some ⟨A, 0, none⟩)) ks.length ks.length), (2, .pointer (some ⟨B2_3, 0, none⟩)), (1, .pointer (some ⟨B1_2, 0, none⟩)), (11, .slice ao ks.length cap), (12, .int .i64 ((ks.length : Nat))), (14, .bool true), (27, kval y), (28, .pointer (some ⟨(bO ((some ⟨A, 0, none⟩))), oO ((some ⟨A, 0, none⟩)) + i * 33, none⟩))] a25 := ⟨hn25, hd25, e25_4, e25_5, e25_13, e25_3, e25_2, e25_1, e25_11, e25_12, e25_14, e25_27q, e25_28, trivial⟩
    refine tl_storeEW (c := kcells) (el := y) sv25 rfl rfl rfl rfl rfl rfl rfl (tyK y) ow kcells_len (by decide) (by first | omega | (simp only [List.length_set]; omega)) rfl fun w26 g26 h26 => ?_
    replace HB1_2 := row_of g26 HB1_2 (fun e => ap_ow_B1_2 _ (row_fp (j := i) ow (by omega) rfl) (Option.some.inj e).symm)
    replace HB2_3 := row_of g26 HB2_3 (fun e => ap_ow_B2_3 _ (row_fp (j := i) ow (by omega) rfl) (Option.some.inj e).symm)
    replace HB5_21 := row_of g26 HB5_21 (fun e => ap_ow_B5_21 _ (row_fp (j := i) ow (by omega) rfl) (Option.some.inj e).symm)
    replace hr := hr.offR g26 (fun k hk e => ap_hr_ow k hk (row_fp (j := i) ow (by omega) e))
    replace kr := kr.offR g26 (fun k hk e => ap_kr_ow k hk (row_fp (j := i) ow (by omega) e))
    replace rt := rt.offR g26 (fun k hk e => ap_rt_ow k hk (row_fp (j := i) ow (by omega) e))
    replace HG := grown_from HG g26 fun k e => lo_ow k (row_fp (j := i) ow (by omega) e)
    replace ow := h26
    have sv27 : Sv 33 [] [(5, .pointer (some ⟨B5_21, 0, none⟩)), (13, .int .i64 ((i : Int))), (3, .slice ((some ⟨A, 0, none⟩)) ks.length ks.length), (2, .pointer (some ⟨B2_3, 0, none⟩)), (1, .pointer (some ⟨B1_2, 0, none⟩)), (11, .slice ao ks.length cap), (12, .int .i64 ((ks.length : Nat))), (14, .bool true)] a25 := ⟨sv25.1, sv25.2.1, sv25.2.2.2.1, sv25.2.2.2.2.1, sv25.2.2.2.2.2.1, sv25.2.2.2.2.2.2.1, sv25.2.2.2.2.2.2.2.1, sv25.2.2.2.2.2.2.2.2.1, sv25.2.2.2.2.2.2.2.2.2.1, sv25.2.2.2.2.2.2.2.2.2.2.1, trivial⟩
    refine tl_nil ?_
    have kr2 := KsT.set kr (x := y) rt i
    have ap_kr2_B1_2 : ∀ k, fpKs (ms.set i y) k → k ≠ B1_2 := fun k hk => (fpKs_set hk).elim (ap_kr_B1_2 k) (ap_rt_B1_2 k)
    have ap_kr2_B2_3 : ∀ k, fpKs (ms.set i y) k → k ≠ B2_3 := fun k hk => (fpKs_set hk).elim (ap_kr_B2_3 k) (ap_rt_B2_3 k)
    have ap_kr2_B5_21 : ∀ k, fpKs (ms.set i y) k → k ≠ B5_21 := fun k hk => (fpKs_set hk).elim (ap_kr_B5_21 k) (ap_rt_B5_21 k)
    have ap_kr2_ow : ∀ k, fpKs (ms.set i y) k → ¬ fpS (.slice ((some ⟨A, 0, none⟩)) ks.length ks.length) k := fun k hk => (fpKs_set hk).elim (ap_kr_ow k) (ap_rt_ow k)
    refine y18 _ _ ?_
    refine k17 _ _ ?_
    refine wp_region_lit ?_
    refine sx_head (sv27.st w26) 1 [(29, Sp.is (.int .i64 (((i + 1 : Nat) : Int))))] rfl (by kernel_rfl) (by kernel_rfl) (by kernel_rfl)
      ⟨ox_bin rfl rfl trivial (oy rfl rfl) rfl (fun _ => rn_add (by rw [wrap_i64 (by omega) (by omega)]; omega)) (fun _ => rfl), trivial⟩ fun a28 w28 g28 st28 => ?_
    obtain ⟨hn28, hd28, e28_29, e28_5, e28_13, e28_3, e28_2, e28_1, e28_11, e28_12, e28_14, -⟩ := st28
    replace HB1_2 := rw_kn g28 HB1_2
    replace HB2_3 := rw_kn g28 HB2_3
    replace HB5_21 := rw_kn g28 HB5_21
    replace hr := hr.kn g28
    replace ow := ow.kn g28
    replace kr2 := kr2.kn g28
    replace HG := grown_trans HG g28
    have sv28 : Sv 33 [] [(5, .pointer (some ⟨B5_21, 0, none⟩)), (13, .int .i64 ((i : Int))), (3, .slice ((some ⟨A, 0, none⟩)) ks.length ks.length), (2, .pointer (some ⟨B2_3, 0, none⟩)), (1, .pointer (some ⟨B1_2, 0, none⟩)), (11, .slice ao ks.length cap), (12, .int .i64 ((ks.length : Nat))), (14, .bool true), (29, .int .i64 (((i + 1 : Nat) : Int)))] a28 := ⟨hn28, hd28, e28_5, e28_13, e28_3, e28_2, e28_1, e28_11, e28_12, e28_14, e28_29, trivial⟩
    have sv29c : Sv 33 [] [(5, .pointer (some ⟨B5_21, 0, none⟩)), (3, .slice ((some ⟨A, 0, none⟩)) ks.length ks.length), (2, .pointer (some ⟨B2_3, 0, none⟩)), (1, .pointer (some ⟨B1_2, 0, none⟩)), (11, .slice ao ks.length cap), (12, .int .i64 ((ks.length : Nat))), (14, .bool true), (29, .int .i64 (((i + 1 : Nat) : Int)))] a28 := ⟨sv28.1, sv28.2.1, sv28.2.2.1, sv28.2.2.2.2.1, sv28.2.2.2.2.2.1, sv28.2.2.2.2.2.2.1, sv28.2.2.2.2.2.2.2.1, sv28.2.2.2.2.2.2.2.2.1, sv28.2.2.2.2.2.2.2.2.2.1, sv28.2.2.2.2.2.2.2.2.2.2.1, trivial⟩
    refine sx_head (sv29c.st w28) 1 [(13, Sp.is (.int .i64 (((i + 1 : Nat) : Int))))] rfl (by kernel_rfl) (by kernel_rfl) (by kernel_rfl)
      ⟨xm rfl rfl rfl rfl rfl, trivial⟩ fun a29 w29 g29 st29 => ?_
    obtain ⟨hn29, hd29, e29_13, e29_5, e29_3, e29_2, e29_1, e29_11, e29_12, e29_14, e29_29, -⟩ := st29
    replace HB1_2 := rw_kn g29 HB1_2
    replace HB2_3 := rw_kn g29 HB2_3
    replace HB5_21 := rw_kn g29 HB5_21
    replace hr := hr.kn g29
    replace ow := ow.kn g29
    replace kr2 := kr2.kn g29
    replace HG := grown_trans HG g29
    have sv29 : Sv 33 [] [(5, .pointer (some ⟨B5_21, 0, none⟩)), (3, .slice ((some ⟨A, 0, none⟩)) ks.length ks.length), (2, .pointer (some ⟨B2_3, 0, none⟩)), (1, .pointer (some ⟨B1_2, 0, none⟩)), (11, .slice ao ks.length cap), (12, .int .i64 ((ks.length : Nat))), (14, .bool true), (29, .int .i64 (((i + 1 : Nat) : Int))), (13, .int .i64 (((i + 1 : Nat) : Int)))] a29 := ⟨hn29, hd29, e29_5, e29_3, e29_2, e29_1, e29_11, e29_12, e29_14, e29_29, e29_13, trivial⟩
    refine tl_nil ?_
    exact ⟨⟨i + 1, ms.set i y, by omega, by rw [List.length_set]; exact hms, cl_step hms hi hx_x hyo hyl hp, fun k hk => (fpKs_set hk).elim (hfr k) fun h => Nat.le_trans HG0.size (frB k h), ⟨sv29.1, sv29.2.1, sv29.2.2.2.2.2.2.2.2.2.2.1, sv29.2.2.2.1, sv29.2.2.2.2.1, sv29.2.2.2.2.2.1, sv29.2.2.2.2.2.2.1, sv29.2.2.2.2.2.2.2.1, trivial⟩, HG, HB1_2, HB2_3, hr, ow, kr2, ap_ow_B1_2, ap_ow_B2_3, ap_hr_ow, ap_kr2_ow, lo_ow, ap_kr2_B1_2, ap_kr2_B2_3⟩, by rw [show _ = _ from sv29.2.2.2.2.2.2.2.2.2.2.1, show _ = _ from sv13.2.2.1]; simp [intOf]; omega⟩
  · have hall := cl_end hms hi hp
    refine wp_region_lit ?_
    refine sx_head (sv13.st w13) 1 [(14, Sp.is (.bool false))] rfl (by kernel_rfl) (by kernel_rfl) (by kernel_rfl)
      ⟨ox_bin rfl rfl trivial (oy rfl rfl) (oy rfl rfl) (fun _ => rn_lss (decide_eq_false (by omega))) (fun _ => rfl), trivial⟩ fun a30 w30 g30 st30 => ?_
    obtain ⟨hn30, hd30, e30_14, e30_13, e30_3, e30_2, e30_1, e30_11, e30_12, -⟩ := st30
    replace HB1_2 := rw_kn g30 HB1_2
    replace HB2_3 := rw_kn g30 HB2_3
    replace hr := hr.kn g30
    replace ow := ow.kn g30
    replace kr := kr.kn g30
    replace HG := grown_trans HG g30
    have sv30 : Sv 33 [] [(13, .int .i64 ((i : Int))), (3, .slice ((some ⟨A, 0, none⟩)) ks.length ks.length), (2, .pointer (some ⟨B2_3, 0, none⟩)), (1, .pointer (some ⟨B1_2, 0, none⟩)), (11, .slice ao ks.length cap), (12, .int .i64 ((ks.length : Nat))), (14, .bool false)] a30 := ⟨hn30, hd30, e30_13, e30_3, e30_2, e30_1, e30_11, e30_12, e30_14, trivial⟩
    refine tl_nil ?_
    refine k14 _ _ ?_
    refine wp_seq_k fun K31 k31 => ?_
    refine cx_ifF sv30 rfl rfl ?_
    refine wp_exit ?_
    repeat refine then_exit ?_
    refine x12 _ _ ?_
    refine k9 _ _ ?_
    refine wp_seq_k fun K32 k32 => ?_
    refine wp_region_lit ?_
    refine sx_head (sv30.st w30) 2 [(30, Sp.is (.slice ((some ⟨A, 0, none⟩)) ks.length ks.length)), (31, Sp.is (.pointer (some ⟨B1_2, 64, none⟩)))] rfl (by kernel_rfl) (by kernel_rfl) (by kernel_rfl)
      ⟨xm rfl rfl rfl rfl rfl, xf rfl rfl rfl rfl rfl (fun _ => by kernel_rfl) rfl, trivial⟩ fun a33 w33 g33 st33 => ?_
    obtain ⟨hn33, hd33, e33_30, e33_31, e33_13, e33_3, e33_2, e33_1, e33_11, e33_12, e33_14, -⟩ := st33
    replace HB1_2 := rw_kn g33 HB1_2
    replace HB2_3 := rw_kn g33 HB2_3
    replace hr := hr.kn g33
    replace ow := ow.kn g33
    replace kr := kr.kn g33
    replace HG := grown_trans HG g33
    have sv33 : Sv 33 [] [(13, .int .i64 ((i : Int))), (3, .slice ((some ⟨A, 0, none⟩)) ks.length ks.length), (2, .pointer (some ⟨B2_3, 0, none⟩)), (1, .pointer (some ⟨B1_2, 0, none⟩)), (11, .slice ao ks.length cap), (12, .int .i64 ((ks.length : Nat))), (14, .bool false), (30, .slice ((some ⟨A, 0, none⟩)) ks.length ks.length), (31, .pointer (some ⟨B1_2, 64, none⟩))] a33 := ⟨hn33, hd33, e33_13, e33_3, e33_2, e33_1, e33_11, e33_12, e33_14, e33_30, e33_31, trivial⟩
    refine tl_storeP (L := [bv sa, bv po, [.slice ao ks.length cap]]) (i := 2) sv33 rfl rfl rfl rfl rfl rfl rfl (tyKs (.slice ((some ⟨A, 0, none⟩)) ks.length ks.length) rfl) HB1_2 rfl (by simp [bv_length, zero32_len, hsa.1, hpo.1]) rfl fun w34 g34 h34 => ?_
    replace HB2_3 := rw_st g34 HB2_3 ne_B2_3_B1_2
    replace hr := hr.offR g34 (fun k hk e => ap_hr_B1_2 k hk (Option.some.inj e).symm)
    replace ow := ow.offR g34 (fun k hk e => ap_ow_B1_2 k hk (Option.some.inj e).symm)
    replace kr := kr.offR g34 (fun k hk e => ap_kr_B1_2 k hk (Option.some.inj e).symm)
    replace HG := grown_newR HG g34 lo_B1_2
    replace HB1_2 := h34
    have sv35 : Sv 33 [] [(13, .int .i64 ((i : Int))), (3, .slice ((some ⟨A, 0, none⟩)) ks.length ks.length), (2, .pointer (some ⟨B2_3, 0, none⟩)), (1, .pointer (some ⟨B1_2, 0, none⟩)), (11, .slice ao ks.length cap), (12, .int .i64 ((ks.length : Nat))), (14, .bool false)] a33 := ⟨sv33.1, sv33.2.1, sv33.2.2.1, sv33.2.2.2.1, sv33.2.2.2.2.1, sv33.2.2.2.2.2.1, sv33.2.2.2.2.2.2.1, sv33.2.2.2.2.2.2.2.1, sv33.2.2.2.2.2.2.2.2.1, trivial⟩
    refine tl_nil ?_
    refine k32 _ _ ?_
    refine wp_seq_k fun K36 k36 => ?_
    refine wp_region_lit ?_
    refine sx_head (sv35.st w34) 1 [(32, Sp.is (vval sa po (.slice ((some ⟨A, 0, none⟩)) ks.length ks.length)))] rfl (by kernel_rfl) (by kernel_rfl) (by kernel_rfl)
      ⟨xl rfl rfl rfl rfl rfl (tyVa hsa hpo (.slice ((some ⟨A, 0, none⟩)) ks.length ks.length) rfl) HB1_2 rfl, trivial⟩ fun a37 w37 g37 st37 => ?_
    obtain ⟨hn37, hd37, e37_32, e37_13, e37_3, e37_2, e37_1, e37_11, e37_12, e37_14, -⟩ := st37
    replace HB1_2 := rw_kn g37 HB1_2
    replace HB2_3 := rw_kn g37 HB2_3
    replace hr := hr.kn g37
    replace ow := ow.kn g37
    replace kr := kr.kn g37
    replace HG := grown_trans HG g37
    have sv37 : Sv 33 [] [(13, .int .i64 ((i : Int))), (3, .slice ((some ⟨A, 0, none⟩)) ks.length ks.length), (2, .pointer (some ⟨B2_3, 0, none⟩)), (1, .pointer (some ⟨B1_2, 0, none⟩)), (11, .slice ao ks.length cap), (12, .int .i64 ((ks.length : Nat))), (14, .bool false), (32, vval sa po (.slice ((some ⟨A, 0, none⟩)) ks.length ks.length))] a37 := ⟨hn37, hd37, e37_13, e37_3, e37_2, e37_1, e37_11, e37_12, e37_14, e37_32, trivial⟩
    refine tl_storeW sv37 rfl rfl rfl rfl rfl rfl rfl (tyVa hsa hpo (.slice ((some ⟨A, 0, none⟩)) ks.length ks.length) rfl) HB2_3 (by first | rfl | simp [kcells, bv_length, zero32_len, hsa.1, hpo.1]) fun w38 g38 h38 => ?_
    replace HB1_2 := rw_st g38 HB1_2 (Ne.symm ne_B2_3_B1_2)
    replace hr := hr.offR g38 (fun k hk e => ap_hr_B2_3 k hk (Option.some.inj e).symm)
    replace ow := ow.offR g38 (fun k hk e => ap_ow_B2_3 k hk (Option.some.inj e).symm)
    replace kr := kr.offR g38 (fun k hk e => ap_kr_B2_3 k hk (Option.some.inj e).symm)
    replace HG := grown_newR HG g38 lo_B2_3
    replace HB2_3 := h38
    have sv39 : Sv 33 [] [(13, .int .i64 ((i : Int))), (3, .slice ((some ⟨A, 0, none⟩)) ks.length ks.length), (2, .pointer (some ⟨B2_3, 0, none⟩)), (1, .pointer (some ⟨B1_2, 0, none⟩)), (11, .slice ao ks.length cap), (12, .int .i64 ((ks.length : Nat))), (14, .bool false)] a37 := ⟨sv37.1, sv37.2.1, sv37.2.2.1, sv37.2.2.2.1, sv37.2.2.2.2.1, sv37.2.2.2.2.2.1, sv37.2.2.2.2.2.2.1, sv37.2.2.2.2.2.2.2.1, sv37.2.2.2.2.2.2.2.2.1, trivial⟩
    refine tl_nil ?_
    refine k36 _ _ ?_
    refine wp_ret ?_
    repeat refine then_ret ?_
    refine cx_ret (fn := Try.f69) sv39 (res_cell (p := 2) Try.results69 sv39 rfl rfl (tyVa hsa hpo (.slice ((some ⟨A, 0, none⟩)) ks.length ks.length) rfl) HB2_3) ?_
    exact ⟨A, ms, rfl, hall, ow, kr, lo_ow _ rfl, fun k hk => ⟨hfr k hk, fun e => ap_kr_ow k hk (e ▸ rfl)⟩, HG⟩
end Go.Proofs.Yteakoleceoclkaa
