/- Vaults: find, at, valid vaults. (printed by gen_v4.py) -/
import Derived.Test.YteakoleceoclkaaV3
namespace Go.Proofs.Yteakoleceoclkaa
open Go.RowKit Go.Shelf
set_option linter.unusedSimpArgs false
set_option linter.unusedVariables false
theorem inv_of {P : Program} {f : Nat} {fn : Func} {c : Code} (hf : P.funcs[f]? = some fn) (hname : (fn.name == "runtime.NumGoroutine") = false) (hb : fn.body = some c) (cap : Array Value) (w : World) :
    (invoke (.fn (.func f) cap) #[]).run P w = .ok (.enter f cap) w := by
  have h1 : fn.name ≠ "runtime.NumGoroutine" := by simpa using hname
  simp [invoke, callFunc, hf, h1, hb]
set_option maxRecDepth 100000 in
theorem recNewVault_walk (w : World) : CallsD Try.prog 66 #[] .returning w fun e u' w' => e = .returned (.tuple #[]) ∧ u' = .returning ∧ w' = w := by
  refine callsD_of_wpS Try.func66 rfl fun c₀ cs hu => ?_
  apply wpS_region
  simp [wpOpsS, go_sem, recoverD, hu, Try.ntmps66]
  cases c₀
  simp_all [bodyPostS, results, Try.results66]
set_option maxRecDepth 100000 in
theorem recValidVault_walk (w : World) : CallsD Try.prog 79 #[] .returning w fun e u' w' => e = .returned (.tuple #[]) ∧ u' = .returning ∧ w' = w := by
  refine callsD_of_wpS Try.func79 rfl fun c₀ cs hu => ?_
  apply wpS_region
  simp [wpOpsS, go_sem, recoverD, hu, Try.ntmps79]
  cases c₀
  simp_all [bodyPostS, results, Try.results79]
set_option maxRecDepth 100000 in
theorem recEnsure_walk (p q : Value) (w : World) : CallsD Try.prog 68 #[p, q] .returning w fun e u' w' => e = .returned (.tuple #[]) ∧ u' = .returning ∧ w' = w := by
  refine callsD_of_wpS Try.func68 rfl fun c₀ cs hu => ?_
  apply wpS_seq
  apply wpS_region
  simp [wpOpsS, go_sem, recoverD, hu, Try.ntmps68, Exit.thenS]
  refine wpS_cond (t := false) (by simp [Act.eval, Array.replicate]) ?_
  simp only [Bool.false_eq_true, if_false]
  refine wpS_of_wp (wp_skip ?_)
  cases c₀
  simp_all [bodyPostS, results, Try.results68]
set_option maxRecDepth 100000 in
theorem recKey_walk (p q : Value) (w : World) : CallsD Try.prog 74 #[p, q] .returning w fun e u' w' => e = .returned (.tuple #[]) ∧ u' = .returning ∧ w' = w := by
  refine callsD_of_wpS Try.func74 rfl fun c₀ cs hu => ?_
  apply wpS_seq
  apply wpS_region
  simp [wpOpsS, go_sem, recoverD, hu, Try.ntmps74, Exit.thenS]
  refine wpS_cond (t := false) (by simp [Act.eval, Array.replicate]) ?_
  simp only [Bool.false_eq_true, if_false]
  refine wpS_of_wp (wp_skip ?_)
  cases c₀
  simp_all [bodyPostS, results, Try.results74]
set_option maxRecDepth 100000 in
theorem recShred_walk (p q : Value) (w : World) : CallsD Try.prog 78 #[p, q] .returning w fun e u' w' => e = .returned (.tuple #[]) ∧ u' = .returning ∧ w' = w := by
  refine callsD_of_wpS Try.func78 rfl fun c₀ cs hu => ?_
  apply wpS_seq
  apply wpS_region
  simp [wpOpsS, go_sem, recoverD, hu, Try.ntmps78, Exit.thenS]
  refine wpS_cond (t := false) (by simp [Act.eval, Array.replicate]) ?_
  simp only [Bool.false_eq_true, if_false]
  refine wpS_of_wp (wp_skip ?_)
  cases c₀
  simp_all [bodyPostS, results, Try.results78]
set_option maxRecDepth 100000 in
theorem recDrop_walk (p q : Value) (w : World) : CallsD Try.prog 72 #[p, q] .returning w fun e u' w' => e = .returned (.tuple #[]) ∧ u' = .returning ∧ w' = w := by
  refine callsD_of_wpS Try.func72 rfl fun c₀ cs hu => ?_
  apply wpS_seq
  apply wpS_region
  simp [wpOpsS, go_sem, recoverD, hu, Try.ntmps72, Exit.thenS]
  refine wpS_cond (t := false) (by simp [Act.eval, Array.replicate]) ?_
  simp only [Bool.false_eq_true, if_false]
  refine wpS_of_wp (wp_skip ?_)
  cases c₀
  simp_all [bodyPostS, results, Try.results72]
theorem valid_callB {w : World} {s : Value} {l : List Nd} {b : Bool} (hb : vld l = b) (h : RdT w s l) : Calls Try.prog 27 #[.agg #[s]] w fun e w' => e = .returned (.bool b) ∧ w.grownBy w' none := hb ▸ valid_call h
theorem retB {a b : Bool} (h : a = b) : Ending.returned (.bool a) = Ending.returned (.bool b) := by rw [h]
theorem RdK.kt {w : World} {v : Value} {ks : List VK} (h : RdK w v ks) {j : Nat} (hj : j < ks.length) {x : VK} (hx : ks[j] = x) : RdT w x.s x.l := h.2 x (hx ▸ List.getElem_mem hj)
theorem chk_i {ks : List VK} {i : Nat} {x y : VK} (hi : i < ks.length) (hp : i - 1 < ks.length) (hx : ks[i] = x) (hy : ks[i - 1] = y) : chk (ks.map VK.p) i = ((decide (i = 0) || blt y.o x.o) && vld x.l) := by
  unfold chk
  rw [od_map hi, od_map hp, tr_map hi, hx, hy]
set_option maxRecDepth 100000 in
set_option maxHeartbeats 4000000 in
theorem find_walk (ks : List VK) (ao : Option Addr) (cap : Nat) (sa po : List Nat) (hsa : Dg sa) (hpo : Dg po) (o : List Nat) (ho : Dg o) (w : World) (hr : RdK w (.slice ao ks.length cap) ks) (hs : Srt (ks.map VK.p)) (h64 : ks.length ≤ 64) :
    Calls Try.prog 70 #[vval sa po (.slice ao ks.length cap), dval o] w fun e w' => e = .returned (.tuple #[.int .i64 (pos (ks.map VK.p) o), .bool (fnd (ks.map VK.p) o)]) ∧ w.grownBy w' none := by
  refine cx_enter Try.func70 rfl Try.ntmps70 rfl fun a0 sv0 => ?_
  have HG := World.grownBy.refl w none
  replace sv0 : Sv 12 [] [(0, vval sa po (.slice ao ks.length cap)), (1, dval o)] a0 := sv0
  refine wp_seq_k fun K1 k1 => ?_
  refine wp_region_lit ?_
  refine tl_box sv0 rfl rfl rfl rfl rfl rfl (tyVa hsa hpo (.slice ao ks.length cap) rfl) fun a2 w2 B2_2 eq_B2_2 g2 z2 HB2_2 sv2 => ?_
  have lo_B2_2 := nb_lo HG eq_B2_2
  have ap_hr_B2_2 := nb_ap (hr.lt) eq_B2_2
  replace hr := hr.kn g2
  replace HG := grown_trans HG g2
  replace sv2 : Sv 12 [] [(2, .pointer (some ⟨B2_2, 0, none⟩)), (0, vval sa po (.slice ao ks.length cap)), (1, dval o)] a2 := sv2
  refine tl_box sv2 rfl rfl rfl rfl rfl rfl (tyD o ho.1) fun a3 w3 B3_3 eq_B3_3 g3 z3 HB3_3 sv3 => ?_
  have ne_B3_3_B2_2 := nb_ne HB2_2 eq_B3_3
  have lo_B3_3 := nb_lo HG eq_B3_3
  have ap_hr_B3_3 := nb_ap (hr.lt) eq_B3_3
  replace HB2_2 := rw_kn g3 HB2_2
  replace hr := hr.kn g3
  replace HG := grown_trans HG g3
  replace sv3 : Sv 12 [] [(3, .pointer (some ⟨B3_3, 0, none⟩)), (2, .pointer (some ⟨B2_2, 0, none⟩)), (0, vval sa po (.slice ao ks.length cap)), (1, dval o)] a3 := sv3
  refine tl_assign sv3 rfl (.inl rfl) rfl rfl rfl rfl fun a4 sv4 => ?_
  replace sv4 : Sv 12 [] [(4, .int .i64 0), (3, .pointer (some ⟨B3_3, 0, none⟩)), (2, .pointer (some ⟨B2_2, 0, none⟩)), (0, vval sa po (.slice ao ks.length cap)), (1, dval o)] a4 := sv4
  refine tl_assign sv4 rfl (.inl rfl) rfl rfl rfl rfl fun a5 sv5 => ?_
  replace sv5 : Sv 12 [] [(5, .bool false), (4, .int .i64 0), (3, .pointer (some ⟨B3_3, 0, none⟩)), (2, .pointer (some ⟨B2_2, 0, none⟩)), (0, vval sa po (.slice ao ks.length cap)), (1, dval o)] a5 := sv5
  have sv6 : Sv 12 [] [(5, .bool false), (4, .int .i64 0), (3, .pointer (some ⟨B3_3, 0, none⟩)), (2, .pointer (some ⟨B2_2, 0, none⟩))] a5 := ⟨sv5.1, sv5.2.1, sv5.2.2.1, sv5.2.2.2.1, sv5.2.2.2.2.1, sv5.2.2.2.2.2.1, trivial⟩
  refine tl_nil ?_
  refine k1 _ _ ?_
  refine wp_seq_k fun K7 k7 => ?_
  refine wp_region_lit ?_
  refine sx_head (sv6.st w3) 6 [(6, Sp.is (.pointer (some ⟨B2_2, 64, none⟩))), (7, Sp.is (.slice ao ks.length cap)), (8, Sp.is (dval o)), (9, Sp.is (.tuple #[.int .i64 ((pos (ks.map VK.p) o : Int)), .bool (fnd (ks.map VK.p) o)])), (10, Sp.is (.int .i64 ((pos (ks.map VK.p) o : Int)))), (11, Sp.is (.bool (fnd (ks.map VK.p) o)))] rfl (by kernel_rfl) (by kernel_rfl) (by kernel_rfl)
    ⟨xf rfl rfl rfl rfl rfl (fun _ => by kernel_rfl) rfl, xp (i := 2) rfl rfl rfl rfl rfl (tyKs (.slice ao ks.length cap) rfl) HB2_2 rfl (by simp [bv_length, zero32_len, hsa.1, hpo.1]) rfl, xl rfl rfl rfl rfl rfl (tyD o ho.1) HB3_3 rfl, ox_call (Sp.is (.tuple #[.int .i64 ((pos (ks.map VK.p) o : Int)), .bool (fnd (ks.map VK.p) o)])) [.slice ao ks.length cap, dval o, .func (.func 80) #[] #[]] rfl rfl trivial ⟨(oy rfl rfl), (oy rfl rfl), rfl, trivial⟩ (is_on fun W g => bsearch_walk ks ao cap o ho W (hr.kn g) hs h64) (fun _ _ h => h) (enter_of Try.func91 (by kernel_rfl) rfl), ox_extract rfl rfl rfl trivial (fun _ _ h => ⟨_, _, h, rfl, rfl⟩), ox_extract rfl rfl rfl trivial (fun _ _ h => ⟨_, _, h, rfl, rfl⟩), trivial⟩ fun a8 w8 g8 st8 => ?_
  obtain ⟨hn8, hd8, e8_6, e8_7, e8_8, e8_9, e8_10, e8_11, e8_5, e8_4, e8_3, e8_2, -⟩ := st8
  replace HB2_2 := rw_kn g8 HB2_2
  replace HB3_3 := rw_kn g8 HB3_3
  replace hr := hr.kn g8
  replace HG := grown_trans HG g8
  have sv8 : Sv 12 [] [(5, .bool false), (4, .int .i64 0), (3, .pointer (some ⟨B3_3, 0, none⟩)), (2, .pointer (some ⟨B2_2, 0, none⟩)), (10, .int .i64 ((pos (ks.map VK.p) o : Int))), (11, .bool (fnd (ks.map VK.p) o))] a8 := ⟨hn8, hd8, e8_5, e8_4, e8_3, e8_2, e8_10, e8_11, trivial⟩
  refine tl_assign sv8 rfl (.inl rfl) rfl rfl rfl rfl fun a9 sv9 => ?_
  replace sv9 : Sv 12 [] [(4, .int .i64 ((pos (ks.map VK.p) o : Int))), (5, .bool false), (3, .pointer (some ⟨B3_3, 0, none⟩)), (2, .pointer (some ⟨B2_2, 0, none⟩)), (10, .int .i64 ((pos (ks.map VK.p) o : Int))), (11, .bool (fnd (ks.map VK.p) o))] a9 := sv9
  refine tl_assign sv9 rfl (.inl rfl) rfl rfl rfl rfl fun a10 sv10 => ?_
  replace sv10 : Sv 12 [] [(5, .bool (fnd (ks.map VK.p) o)), (4, .int .i64 ((pos (ks.map VK.p) o : Int))), (3, .pointer (some ⟨B3_3, 0, none⟩)), (2, .pointer (some ⟨B2_2, 0, none⟩)), (10, .int .i64 ((pos (ks.map VK.p) o : Int))), (11, .bool (fnd (ks.map VK.p) o))] a10 := sv10
  have sv11 : Sv 12 [] [(5, .bool (fnd (ks.map VK.p) o)), (4, .int .i64 ((pos (ks.map VK.p) o : Int)))] a10 := ⟨sv10.1, sv10.2.1, sv10.2.2.1, sv10.2.2.2.1, trivial⟩
  refine tl_nil ?_
  refine k7 _ _ ?_
  refine wp_ret ?_
  repeat refine then_ret ?_
  refine cx_ret (fn := Try.f70) sv11 (res_tmp2 (p := 4) (q := 5) Try.results70 sv11 rfl rfl rfl rfl) ?_
  exact ⟨rfl, HG⟩
set_option maxRecDepth 100000 in
set_option maxHeartbeats 4000000 in
theorem vvalid_walk (ks : List VK) (ao : Option Addr) (cap : Nat) (sa po : List Nat) (hsa : Dg sa) (hpo : Dg po) (w : World) (hr : RdK w (.slice ao ks.length cap) ks) :
    Calls Try.prog 45 #[vval sa po (.slice ao ks.length cap)] w fun e w' => e = .returned (.bool (vldV (ks.map VK.p))) ∧ w.grownBy w' none := by
  have hlen := hr.len
  have hmap : (ks.map VK.p).length = ks.length := List.length_map _
  refine cx_enterD Try.func45 rfl Try.ntmps45 rfl fun a0 sv0 => ?_
  have HG := World.grownBy.refl w none
  replace sv0 : Sv 38 [] [(0, vval sa po (.slice ao ks.length cap))] a0 := sv0
  refine wp_seq_k fun K1 k1 => ?_
  refine wp_region_lit ?_
  refine tl_box sv0 rfl rfl rfl rfl rfl rfl (tyVa hsa hpo (.slice ao ks.length cap) rfl) fun a2 w2 B1_2 eq_B1_2 g2 z2 HB1_2 sv2 => ?_
  have lo_B1_2 := nb_lo HG eq_B1_2
  have ap_hr_B1_2 := nb_ap (hr.lt) eq_B1_2
  replace hr := hr.kn g2
  replace HG := grown_trans HG g2
  replace sv2 : Sv 38 [] [(1, .pointer (some ⟨B1_2, 0, none⟩)), (0, vval sa po (.slice ao ks.length cap))] a2 := sv2
  refine tl_assign sv2 rfl (.inl rfl) rfl rfl rfl rfl fun a3 sv3 => ?_
  replace sv3 : Sv 38 [] [(2, .bool false), (1, .pointer (some ⟨B1_2, 0, none⟩)), (0, vval sa po (.slice ao ks.length cap))] a3 := sv3
  have sv4 : Sv 38 [] [(2, .bool false), (1, .pointer (some ⟨B1_2, 0, none⟩))] a3 := ⟨sv3.1, sv3.2.1, sv3.2.2.1, sv3.2.2.2.1, trivial⟩
  refine tl_nil ?_
  refine k1 _ _ ?_
  refine wp_seq_k fun K5 k5 => ?_
  refine wp_region_lit ?_
  refine tl_defer sv4 rfl (dd := { target := .fn (.func 79) #[], args := #[] }) rfl (by simp [execOp, resolve, Deferred.ofValue]; try rfl) fun a6 sv6 => ?_
  refine tl_nil ?_
  refine k5 _ _ ?_
  refine wp_seq_k fun K7 k7 => ?_
  refine wp_seq_k fun K8 k8 => ?_
  by_cases hbig : 64 < ks.length
  · refine wp_region_lit ?_
    refine sx_head (sv6.st w2) 4 [(5, Sp.is (.pointer (some ⟨B1_2, 64, none⟩))), (6, Sp.is (.slice ao ks.length cap)), (7, Sp.is (.int .i64 ((ks.length : Nat)))), (8, Sp.is (.bool true))] rfl (by kernel_rfl) (by kernel_rfl) (by kernel_rfl)
      ⟨xf rfl rfl rfl rfl rfl (fun _ => by kernel_rfl) rfl, xp (i := 2) rfl rfl rfl rfl rfl (tyKs (.slice ao ks.length cap) rfl) HB1_2 rfl (by simp [bv_length, zero32_len, hsa.1, hpo.1]) rfl, ox_len (Try.underlying56) rfl rfl trivial (oy rfl rfl) (fun _ => rfl), ox_bin rfl rfl trivial (oy rfl rfl) rfl (fun _ => rn_gtr (by simp; omega)) (fun _ => rfl), trivial⟩ fun a9 w9 g9 st9 => ?_
    obtain ⟨hn9, hd9, e9_5, e9_6, e9_7, e9_8, e9_2, e9_1, -⟩ := st9
    replace HB1_2 := rw_kn g9 HB1_2
    replace hr := hr.kn g9
    replace HG := grown_trans HG g9
    have sv9 : Sv 38 [{ target := .fn (.func 79) #[], args := #[] }] [(2, .bool false), (1, .pointer (some ⟨B1_2, 0, none⟩)), (8, .bool true)] a9 := ⟨hn9, hd9, e9_2, e9_1, e9_8, trivial⟩
    refine tl_nil ?_
    refine k8 _ _ ?_
    refine cx_ifT sv9 rfl rfl ?_
    refine wp_seq_k fun K10 k10 => ?_
    refine wp_region_lit ?_
    refine tl_assign sv9 rfl (.inl rfl) rfl rfl rfl rfl fun a11 sv11 => ?_
    replace sv11 : Sv 38 [{ target := .fn (.func 79) #[], args := #[] }] [(2, .bool false), (1, .pointer (some ⟨B1_2, 0, none⟩)), (8, .bool true)] a11 := sv11
    refine tl_nil ?_
    refine k10 _ _ ?_
    refine wp_ret ?_
    repeat refine then_ret ?_
    refine cx_retD (fn := Try.f45) sv11 (res_tmp (p := 2) Try.results45 sv11 rfl rfl) (inv_of Try.func79 (by kernel_rfl) rfl _ _) (recValidVault_walk _) ?_
    exact ⟨retB ((vldV_big (by omega)).symm), HG⟩
  · refine wp_region_lit ?_
    refine sx_head (sv6.st w2) 4 [(5, Sp.is (.pointer (some ⟨B1_2, 64, none⟩))), (6, Sp.is (.slice ao ks.length cap)), (7, Sp.is (.int .i64 ((ks.length : Nat)))), (8, Sp.is (.bool false))] rfl (by kernel_rfl) (by kernel_rfl) (by kernel_rfl)
      ⟨xf rfl rfl rfl rfl rfl (fun _ => by kernel_rfl) rfl, xp (i := 2) rfl rfl rfl rfl rfl (tyKs (.slice ao ks.length cap) rfl) HB1_2 rfl (by simp [bv_length, zero32_len, hsa.1, hpo.1]) rfl, ox_len (Try.underlying56) rfl rfl trivial (oy rfl rfl) (fun _ => rfl), ox_bin rfl rfl trivial (oy rfl rfl) rfl (fun _ => rn_gtr (by simp; omega)) (fun _ => rfl), trivial⟩ fun a12 w12 g12 st12 => ?_
    obtain ⟨hn12, hd12, e12_5, e12_6, e12_7, e12_8, e12_2, e12_1, -⟩ := st12
    replace HB1_2 := rw_kn g12 HB1_2
    replace hr := hr.kn g12
    replace HG := grown_trans HG g12
    have sv12 : Sv 38 [{ target := .fn (.func 79) #[], args := #[] }] [(2, .bool false), (1, .pointer (some ⟨B1_2, 0, none⟩)), (8, .bool false)] a12 := ⟨hn12, hd12, e12_2, e12_1, e12_8, trivial⟩
    refine tl_nil ?_
    refine k8 _ _ ?_
    refine cx_ifF sv12 rfl rfl ?_
    refine wp_skip ?_
    refine k7 _ _ ?_
    refine wp_seq_k fun K13 k13 => ?_
    refine wp_seq_k fun K14 k14 => ?_
    refine wp_region_lit ?_
    refine sx_head (sv12.st w12) 4 [(9, Sp.is (.pointer (some ⟨B1_2, 64, none⟩))), (10, Sp.is (.slice ao ks.length cap)), (11, Sp.is (.int .i64 ((ks.length : Nat)))), (12, Sp.is (.int .i64 0))] rfl (by kernel_rfl) (by kernel_rfl) (by kernel_rfl)
      ⟨xf rfl rfl rfl rfl rfl (fun _ => by kernel_rfl) rfl, xp (i := 2) rfl rfl rfl rfl rfl (tyKs (.slice ao ks.length cap) rfl) HB1_2 rfl (by simp [bv_length, zero32_len, hsa.1, hpo.1]) rfl, ox_len (Try.underlying56) rfl rfl trivial (oy rfl rfl) (fun _ => rfl), ox_const (.inl rfl) rfl trivial (fun _ => rfl), trivial⟩ fun a15 w15 g15 st15 => ?_
    obtain ⟨hn15, hd15, e15_9, e15_10, e15_11, e15_12, e15_2, e15_1, e15_8, -⟩ := st15
    replace HB1_2 := rw_kn g15 HB1_2
    replace hr := hr.kn g15
    replace HG := grown_trans HG g15
    have sv15 : Sv 38 [{ target := .fn (.func 79) #[], args := #[] }] [(2, .bool false), (1, .pointer (some ⟨B1_2, 0, none⟩)), (8, .bool false), (10, .slice ao ks.length cap), (11, .int .i64 ((ks.length : Nat))), (12, .int .i64 0)] a15 := ⟨hn15, hd15, e15_2, e15_1, e15_8, e15_10, e15_11, e15_12, trivial⟩
    refine tl_nil ?_
    refine k14 _ _ ?_
    refine cx_block fun Q16 x16 y16 r16 o16 => ?_
    refine wp_loop (fun a w' => ∃ (i : Nat), (i ≤ ks.length) ∧ (∀ k, k < i → chk (ks.map VK.p) k = true) ∧ Sv 38 [{ target := .fn (.func 79) #[], args := #[] }] [(12, .int .i64 ((i : Int))), (1, .pointer (some ⟨B1_2, 0, none⟩)), (8, .bool false), (10, .slice ao ks.length cap), (11, .int .i64 ((ks.length : Nat)))] a ∧ w.grownBy w' none ∧ w'.heap[B1_2]? = some (.cells ([bv sa, bv po, [.slice ao ks.length cap]].flatten).toArray 58 (0, 0)) ∧ RdK w' (.slice ao ks.length cap) ks) (fun a _ => (ks.length - intOf (a.tmps.getD 12 undef)).toNat) ⟨0, Nat.zero_le _, fun k hk => by omega, ⟨sv15.1, sv15.2.1, sv15.2.2.2.2.2.2.2.1, sv15.2.2.2.1, sv15.2.2.2.2.1, sv15.2.2.2.2.2.1, sv15.2.2.2.2.2.2.1, trivial⟩, HG, HB1_2, hr⟩ fun a17 w17 hI17 => ?_
    clear HB1_2
    clear hr
    clear HG
    obtain ⟨i, hin, hb, sv17, HG, HB1_2, hr⟩ := hI17
    refine wp_seq_k fun K18 k18 => ?_
    by_cases hi : i < ks.length
    · have hp : i - 1 < ks.length := by omega
      obtain ⟨x, hx_x⟩ : ∃ x, ks[i]'hi = x := ⟨_, rfl⟩
      obtain ⟨y, hx_y⟩ : ∃ x, ks[(i - 1)]'hp = x := ⟨_, rfl⟩
      have hchk := chk_i hi hp hx_x hx_y
      refine wp_region_lit ?_
      refine sx_head (sv17.st w17) 1 [(13, Sp.is (.bool true))] rfl (by kernel_rfl) (by kernel_rfl) (by kernel_rfl)
        ⟨ox_bin rfl rfl trivial (oy rfl rfl) (oy rfl rfl) (fun _ => rn_lss (by simp; omega)) (fun _ => rfl), trivial⟩ fun a19 w19 g19 st19 => ?_
      obtain ⟨hn19, hd19, e19_13, e19_12, e19_1, e19_8, e19_10, e19_11, -⟩ := st19
      replace HB1_2 := rw_kn g19 HB1_2
      replace hr := hr.kn g19
      replace HG := grown_trans HG g19
      have sv19 : Sv 38 [{ target := .fn (.func 79) #[], args := #[] }] [(12, .int .i64 ((i : Int))), (1, .pointer (some ⟨B1_2, 0, none⟩)), (8, .bool false), (10, .slice ao ks.length cap), (11, .int .i64 ((ks.length : Nat))), (13, .bool true)] a19 := ⟨hn19, hd19, e19_12, e19_1, e19_8, e19_10, e19_11, e19_13, trivial⟩
      refine tl_nil ?_
      refine k18 _ _ ?_
      refine wp_seq_k fun K20 k20 => ?_
      refine cx_ifT sv19 rfl rfl ?_
      refine wp_skip ?_
      refine k20 _ _ ?_
      refine wp_seq_k fun K21 k21 => ?_
      refine cx_block fun Q22 x22 y22 r22 o22 => ?_
      refine wp_seq_k fun K23 k23 => ?_
      refine wp_region_lit ?_
      refine sx_head (sv19.st w19) 3 [(14, Sp.is (.int .i64 ((i : Int)))), (15, Sp.is (.pointer (some ⟨(bO ao), oO ao + i * 33, none⟩))), (16, Sp.is (kval x))] rfl (by kernel_rfl) (by kernel_rfl) (by kernel_rfl)
        ⟨xm rfl rfl rfl rfl rfl, ox_index rfl rfl trivial (oy rfl rfl) (oy rfl rfl) (fun w => ix_sl Try.underlying56 (by kernel_rfl) (hr.1.1) (by omega) (rfl) w) (fun _ => rfl), ox_load rfl rfl trivial (oy rfl rfl) (fun _ g => loadsAt (tyK x) (RdK.keyX (hr.kn g) rfl hi hx_x)) (fun _ => rfl), trivial⟩ fun a24 w24 g24 st24 => ?_
      obtain ⟨hn24, hd24, e24_14, e24_15, e24_16, e24_12, e24_1, e24_8, e24_10, e24_11, e24_13, -⟩ := st24
      replace HB1_2 := rw_kn g24 HB1_2
      replace hr := hr.kn g24
      replace HG := grown_trans HG g24
      have sv24 : Sv 38 [{ target := .fn (.func 79) #[], args := #[] }] [(12, .int .i64 ((i : Int))), (1, .pointer (some ⟨B1_2, 0, none⟩)), (8, .bool false), (10, .slice ao ks.length cap), (11, .int .i64 ((ks.length : Nat))), (13, .bool true), (14, .int .i64 ((i : Int))), (16, kval x)] a24 := ⟨hn24, hd24, e24_12, e24_1, e24_8, e24_10, e24_11, e24_13, e24_14, e24_16, trivial⟩
      refine tl_alloc (T := 65) (Z := ([bv zero32, [.slice none 0 0]].flatten)) sv24 rfl rfl rfl (fun a w => by kernel_rfl) fun a25 w25 B4_25 eq_B4_25 g25 z25 HB4_25 sv25 => ?_
      have ne_B4_25_B1_2 := nb_ne HB1_2 eq_B4_25
      have lo_B4_25 := nb_lo HG eq_B4_25
      have ap_hr_B4_25 := nb_ap (hr.lt) eq_B4_25
      replace HB1_2 := rw_kn g25 HB1_2
      replace hr := hr.kn g25
      replace HG := grown_trans HG g25
      replace sv25 : Sv 38 [{ target := .fn (.func 79) #[], args := #[] }] [(4, .pointer (some ⟨B4_25, 0, none⟩)), (12, .int .i64 ((i : Int))), (1, .pointer (some ⟨B1_2, 0, none⟩)), (8, .bool false), (10, .slice ao ks.length cap), (11, .int .i64 ((ks.length : Nat))), (13, .bool true), (14, .int .i64 ((i : Int))), (16, kval x)] a25 := sv25
      refine tl_assign sv25 rfl (.inl rfl) rfl rfl rfl rfl fun a26 sv26 => ?_
      replace sv26 : Sv 38 [{ target := .fn (.func 79) #[], args := #[] }] [(3, .int .i64 ((i : Int))), (4, .pointer (some ⟨B4_25, 0, none⟩)), (12, .int .i64 ((i : Int))), (1, .pointer (some ⟨B1_2, 0, none⟩)), (8, .bool false), (10, .slice ao ks.length cap), (11, .int .i64 ((ks.length : Nat))), (13, .bool true), (14, .int .i64 ((i : Int))), (16, kval x)] a26 := sv26
      refine tl_storeW sv26 rfl rfl rfl rfl rfl rfl rfl (tyK x) HB4_25 (by first | rfl | simp [kcells, bv_length, zero32_len, x.ho.1]) fun w27 g27 h27 => ?_
      replace HB1_2 := rw_st g27 HB1_2 (Ne.symm ne_B4_25_B1_2)
      replace hr := hr.offR g27 (fun k hk e => ap_hr_B4_25 k hk (Option.some.inj e).symm)
      replace HG := grown_newR HG g27 lo_B4_25
      replace HB4_25 := h27
      have sv28 : Sv 38 [{ target := .fn (.func 79) #[], args := #[] }] [(3, .int .i64 ((i : Int))), (4, .pointer (some ⟨B4_25, 0, none⟩)), (12, .int .i64 ((i : Int))), (1, .pointer (some ⟨B1_2, 0, none⟩)), (8, .bool false), (10, .slice ao ks.length cap), (11, .int .i64 ((ks.length : Nat))), (13, .bool true)] a26 := ⟨sv26.1, sv26.2.1, sv26.2.2.1, sv26.2.2.2.1, sv26.2.2.2.2.1, sv26.2.2.2.2.2.1, sv26.2.2.2.2.2.2.1, sv26.2.2.2.2.2.2.2.1, sv26.2.2.2.2.2.2.2.2.1, sv26.2.2.2.2.2.2.2.2.2.1, trivial⟩
      refine tl_nil ?_
      refine k23 _ _ ?_
      refine wp_seq_k fun K29 k29 => ?_
      rcases (show (i = 0 ∧ vld x.l = true) ∨ (i = 0 ∧ vld x.l = false) ∨ (0 < i ∧ blt y.o x.o = true ∧ vld x.l = true) ∨ (0 < i ∧ blt y.o x.o = true ∧ vld x.l = false) ∨ (0 < i ∧ blt y.o x.o = false ∧ vld x.l = true) ∨ (0 < i ∧ blt y.o x.o = false ∧ vld x.l = false) by
          rcases Nat.eq_zero_or_pos i with h | h <;> cases h2 : vld x.l <;> cases h3 : blt y.o x.o <;> simp [h]) with ⟨hz, hv⟩ | ⟨hz, hv⟩ | ⟨hz, hc, hv⟩ | ⟨hz, hc, hv⟩ | ⟨hz, hc, hv⟩ | ⟨hz, hc, hv⟩
      · have hok : ((decide (i = 0) || blt y.o x.o) && vld x.l) = true := by simp [hz, hv]
        refine rx_all (sv28.st w27) (by kernel_rfl) [(17, Sp.is (.int .i64 ((i : Int)))), (18, Sp.is (.bool false)), (19, Sp.is (.bool false)), (20, Sp.is (undef)), (21, Sp.is (undef)), (22, Sp.is (undef)), (23, Sp.is (undef)), (24, Sp.is (undef)), (25, Sp.is (undef)), (26, Sp.is (undef)), (27, Sp.is (undef)), (28, Sp.is (undef)), (29, Sp.is (undef)), (30, Sp.is (.bool false)), (31, Sp.is (.bool false)), (32, Sp.is (.pointer (some ⟨B4_25, 32, none⟩))), (33, Sp.is (.agg #[VK.s x])), (34, Sp.is (.bool true)), (35, Sp.is (.bool false)), (36, Sp.is (.bool false))] rfl (by kernel_rfl) (by kernel_rfl) (by kernel_rfl)
          ⟨xm rfl rfl rfl rfl rfl, ox_bin rfl rfl trivial (oy rfl rfl) rfl (fun _ => rn_gtr (by simp; omega)) (fun _ => rfl), xm rfl rfl rfl rfl rfl, ox_off (gn rfl rfl rfl) rfl (fun _ => rfl), ox_off (gn rfl rfl rfl) rfl (fun _ => rfl), ox_off (gn rfl rfl rfl) rfl (fun _ => rfl), ox_off (gn rfl rfl rfl) rfl (fun _ => rfl), ox_off (gn rfl rfl rfl) rfl (fun _ => rfl), ox_off (gn rfl rfl rfl) rfl (fun _ => rfl), ox_off (gn rfl rfl rfl) rfl (fun _ => rfl), ox_off (gn rfl rfl rfl) rfl (fun _ => rfl), ox_off (gn rfl rfl rfl) rfl (fun _ => rfl), ox_off (gn rfl rfl rfl) rfl (fun _ => rfl), ox_pick rfl rfl trivial (oy rfl rfl) rfl (fun _ => rfl), xm rfl rfl rfl rfl rfl, ox_field rfl rfl (gy rfl rfl rfl) (oy rfl rfl) (fun _ => by kernel_rfl) (fun _ => rfl), ox_load rfl rfl (gy rfl rfl rfl) (oy rfl rfl) (fun _ g => loadsAt (tyT (VK.s x) rfl) (range_part (L := [bv x.o, [VK.s x]]) (i := 1) (row_of g HB4_25 (by simp)) rfl (by simp [bv_length, zero32_len, x.ho.1]))) (fun _ => rfl), ox_call (Sp.is (.bool true)) [.agg #[VK.s x]] rfl rfl (gy rfl rfl rfl) ⟨(oy rfl rfl), trivial⟩ (is_on fun W g => valid_callB hv ((hr.kn g).kt hi hx_x)) (fun _ _ h => h) (enter_of Try.func27 (by kernel_rfl) rfl), ox_un rfl rfl (gy rfl rfl rfl) (oy rfl rfl) (fun _ => rn_not) (fun _ => rfl), ox_pick rfl rfl trivial (oy rfl rfl) (oy rfl rfl) (fun _ => rfl), trivial⟩ fun a30 w30 g30 st30 => ?_
        obtain ⟨hn30, hd30, e30_17, e30_18, e30_19, e30_20, e30_21, e30_22, e30_23, e30_24, e30_25, e30_26, e30_27, e30_28, e30_29, e30_30, e30_31, e30_32, e30_33, e30_34, e30_35, e30_36, e30_3, e30_4, e30_12, e30_1, e30_8, e30_10, e30_11, e30_13, -⟩ := st30
        replace HB1_2 := rw_kn g30 HB1_2
        replace HB4_25 := rw_kn g30 HB4_25
        replace hr := hr.kn g30
        replace HG := grown_trans HG g30
        have sv30 : Sv 38 [{ target := .fn (.func 79) #[], args := #[] }] [(3, .int .i64 ((i : Int))), (4, .pointer (some ⟨B4_25, 0, none⟩)), (12, .int .i64 ((i : Int))), (1, .pointer (some ⟨B1_2, 0, none⟩)), (8, .bool false), (10, .slice ao ks.length cap), (11, .int .i64 ((ks.length : Nat))), (13, .bool true), (36, .bool false)] a30 := ⟨hn30, hd30, e30_3, e30_4, e30_12, e30_1, e30_8, e30_10, e30_11, e30_13, e30_36, trivial⟩
        refine k29 _ _ ?_
        refine cx_ifF sv30 rfl rfl ?_
        refine wp_skip ?_
        refine y22 _ _ ?_
        refine k21 _ _ ?_
        refine wp_region_lit ?_
        refine sx_head (sv30.st w30) 1 [(37, Sp.is (.int .i64 (((i + 1 : Nat) : Int))))] rfl (by kernel_rfl) (by kernel_rfl) (by kernel_rfl)
          ⟨ox_bin rfl rfl trivial (oy rfl rfl) rfl (fun _ => rn_add (by rw [wrap_i64 (by omega) (by omega)]; omega)) (fun _ => rfl), trivial⟩ fun a31 w31 g31 st31 => ?_
        obtain ⟨hn31, hd31, e31_37, e31_3, e31_4, e31_12, e31_1, e31_8, e31_10, e31_11, e31_13, e31_36, -⟩ := st31
        replace HB1_2 := rw_kn g31 HB1_2
        replace HB4_25 := rw_kn g31 HB4_25
        replace hr := hr.kn g31
        replace HG := grown_trans HG g31
        have sv31 : Sv 38 [{ target := .fn (.func 79) #[], args := #[] }] [(3, .int .i64 ((i : Int))), (4, .pointer (some ⟨B4_25, 0, none⟩)), (12, .int .i64 ((i : Int))), (1, .pointer (some ⟨B1_2, 0, none⟩)), (8, .bool false), (10, .slice ao ks.length cap), (11, .int .i64 ((ks.length : Nat))), (13, .bool true), (36, .bool false), (37, .int .i64 (((i + 1 : Nat) : Int)))] a31 := ⟨hn31, hd31, e31_3, e31_4, e31_12, e31_1, e31_8, e31_10, e31_11, e31_13, e31_36, e31_37, trivial⟩
        have sv32c : Sv 38 [{ target := .fn (.func 79) #[], args := #[] }] [(3, .int .i64 ((i : Int))), (4, .pointer (some ⟨B4_25, 0, none⟩)), (1, .pointer (some ⟨B1_2, 0, none⟩)), (8, .bool false), (10, .slice ao ks.length cap), (11, .int .i64 ((ks.length : Nat))), (13, .bool true), (36, .bool false), (37, .int .i64 (((i + 1 : Nat) : Int)))] a31 := ⟨sv31.1, sv31.2.1, sv31.2.2.1, sv31.2.2.2.1, sv31.2.2.2.2.2.1, sv31.2.2.2.2.2.2.1, sv31.2.2.2.2.2.2.2.1, sv31.2.2.2.2.2.2.2.2.1, sv31.2.2.2.2.2.2.2.2.2.1, sv31.2.2.2.2.2.2.2.2.2.2.1, sv31.2.2.2.2.2.2.2.2.2.2.2.1, trivial⟩
        refine sx_head (sv32c.st w31) 1 [(12, Sp.is (.int .i64 (((i + 1 : Nat) : Int))))] rfl (by kernel_rfl) (by kernel_rfl) (by kernel_rfl)
          ⟨xm rfl rfl rfl rfl rfl, trivial⟩ fun a32 w32 g32 st32 => ?_
        obtain ⟨hn32, hd32, e32_12, e32_3, e32_4, e32_1, e32_8, e32_10, e32_11, e32_13, e32_36, e32_37, -⟩ := st32
        replace HB1_2 := rw_kn g32 HB1_2
        replace HB4_25 := rw_kn g32 HB4_25
        replace hr := hr.kn g32
        replace HG := grown_trans HG g32
        have sv32 : Sv 38 [{ target := .fn (.func 79) #[], args := #[] }] [(3, .int .i64 ((i : Int))), (4, .pointer (some ⟨B4_25, 0, none⟩)), (1, .pointer (some ⟨B1_2, 0, none⟩)), (8, .bool false), (10, .slice ao ks.length cap), (11, .int .i64 ((ks.length : Nat))), (13, .bool true), (36, .bool false), (37, .int .i64 (((i + 1 : Nat) : Int))), (12, .int .i64 (((i + 1 : Nat) : Int)))] a32 := ⟨hn32, hd32, e32_3, e32_4, e32_1, e32_8, e32_10, e32_11, e32_13, e32_36, e32_37, e32_12, trivial⟩
        refine tl_nil ?_
        exact ⟨⟨i + 1, by omega, fun k hk => if e : k = i then (by rw [e, hchk]; exact hok) else hb k (by omega), ⟨sv32.1, sv32.2.1, sv32.2.2.2.2.2.2.2.2.2.2.2.1, sv32.2.2.2.2.1, sv32.2.2.2.2.2.1, sv32.2.2.2.2.2.2.1, sv32.2.2.2.2.2.2.2.1, trivial⟩, HG, HB1_2, hr⟩, by rw [show _ = _ from sv32.2.2.2.2.2.2.2.2.2.2.2.1, show _ = _ from sv17.2.2.1]; simp [intOf]; omega⟩
      · refine rx_all (sv28.st w27) (by kernel_rfl) [(17, Sp.is (.int .i64 ((i : Int)))), (18, Sp.is (.bool false)), (19, Sp.is (.bool false)), (20, Sp.is (undef)), (21, Sp.is (undef)), (22, Sp.is (undef)), (23, Sp.is (undef)), (24, Sp.is (undef)), (25, Sp.is (undef)), (26, Sp.is (undef)), (27, Sp.is (undef)), (28, Sp.is (undef)), (29, Sp.is (undef)), (30, Sp.is (.bool false)), (31, Sp.is (.bool false)), (32, Sp.is (.pointer (some ⟨B4_25, 32, none⟩))), (33, Sp.is (.agg #[VK.s x])), (34, Sp.is (.bool false)), (35, Sp.is (.bool true)), (36, Sp.is (.bool true))] rfl (by kernel_rfl) (by kernel_rfl) (by kernel_rfl)
          ⟨xm rfl rfl rfl rfl rfl, ox_bin rfl rfl trivial (oy rfl rfl) rfl (fun _ => rn_gtr (by simp; omega)) (fun _ => rfl), xm rfl rfl rfl rfl rfl, ox_off (gn rfl rfl rfl) rfl (fun _ => rfl), ox_off (gn rfl rfl rfl) rfl (fun _ => rfl), ox_off (gn rfl rfl rfl) rfl (fun _ => rfl), ox_off (gn rfl rfl rfl) rfl (fun _ => rfl), ox_off (gn rfl rfl rfl) rfl (fun _ => rfl), ox_off (gn rfl rfl rfl) rfl (fun _ => rfl), ox_off (gn rfl rfl rfl) rfl (fun _ => rfl), ox_off (gn rfl rfl rfl) rfl (fun _ => rfl), ox_off (gn rfl rfl rfl) rfl (fun _ => rfl), ox_off (gn rfl rfl rfl) rfl (fun _ => rfl), ox_pick rfl rfl trivial (oy rfl rfl) rfl (fun _ => rfl), xm rfl rfl rfl rfl rfl, ox_field rfl rfl (gy rfl rfl rfl) (oy rfl rfl) (fun _ => by kernel_rfl) (fun _ => rfl), ox_load rfl rfl (gy rfl rfl rfl) (oy rfl rfl) (fun _ g => loadsAt (tyT (VK.s x) rfl) (range_part (L := [bv x.o, [VK.s x]]) (i := 1) (row_of g HB4_25 (by simp)) rfl (by simp [bv_length, zero32_len, x.ho.1]))) (fun _ => rfl), ox_call (Sp.is (.bool false)) [.agg #[VK.s x]] rfl rfl (gy rfl rfl rfl) ⟨(oy rfl rfl), trivial⟩ (is_on fun W g => valid_callB hv ((hr.kn g).kt hi hx_x)) (fun _ _ h => h) (enter_of Try.func27 (by kernel_rfl) rfl), ox_un rfl rfl (gy rfl rfl rfl) (oy rfl rfl) (fun _ => rn_not) (fun _ => rfl), ox_pick rfl rfl trivial (oy rfl rfl) (oy rfl rfl) (fun _ => rfl), trivial⟩ fun a33 w33 g33 st33 => ?_
        obtain ⟨hn33, hd33, e33_17, e33_18, e33_19, e33_20, e33_21, e33_22, e33_23, e33_24, e33_25, e33_26, e33_27, e33_28, e33_29, e33_30, e33_31, e33_32, e33_33, e33_34, e33_35, e33_36, e33_3, e33_4, e33_12, e33_1, e33_8, e33_10, e33_11, e33_13, -⟩ := st33
        replace HB1_2 := rw_kn g33 HB1_2
        replace HB4_25 := rw_kn g33 HB4_25
        replace hr := hr.kn g33
        replace HG := grown_trans HG g33
        have sv33 : Sv 38 [{ target := .fn (.func 79) #[], args := #[] }] [(3, .int .i64 ((i : Int))), (4, .pointer (some ⟨B4_25, 0, none⟩)), (12, .int .i64 ((i : Int))), (1, .pointer (some ⟨B1_2, 0, none⟩)), (8, .bool false), (10, .slice ao ks.length cap), (11, .int .i64 ((ks.length : Nat))), (13, .bool true), (36, .bool true)] a33 := ⟨hn33, hd33, e33_3, e33_4, e33_12, e33_1, e33_8, e33_10, e33_11, e33_13, e33_36, trivial⟩
        refine k29 _ _ ?_
        refine cx_ifT sv33 rfl rfl ?_
        refine wp_seq_k fun K34 k34 => ?_
        refine wp_region_lit ?_
        refine tl_assign sv33 rfl (.inl rfl) rfl rfl rfl rfl fun a35 sv35 => ?_
        replace sv35 : Sv 38 [{ target := .fn (.func 79) #[], args := #[] }] [(2, .bool false), (3, .int .i64 ((i : Int))), (4, .pointer (some ⟨B4_25, 0, none⟩)), (12, .int .i64 ((i : Int))), (1, .pointer (some ⟨B1_2, 0, none⟩)), (8, .bool false), (10, .slice ao ks.length cap), (11, .int .i64 ((ks.length : Nat))), (13, .bool true), (36, .bool true)] a35 := sv35
        refine tl_nil ?_
        refine k34 _ _ ?_
        refine wp_ret ?_
        repeat refine then_ret ?_
        refine r22 _ _ ?_
        repeat refine then_ret ?_
        refine r16 _ _ ?_
        repeat refine then_ret ?_
        refine cx_retD (fn := Try.f45) sv35 (res_tmp (p := 2) Try.results45 sv35 rfl rfl) (inv_of Try.func79 (by kernel_rfl) rfl _ _) (recValidVault_walk _) ?_
        exact ⟨retB ((vldV_no (i := i) (by rw [hmap]; exact hi) (by rw [hchk]; simp [hv])).symm), HG⟩
      · have hok : ((decide (i = 0) || blt y.o x.o) && vld x.l) = true := by simp [hz, hv, hc]
        refine rx_all (sv28.st w27) (by kernel_rfl) [(17, Sp.is (.int .i64 ((i : Int)))), (18, Sp.is (.bool true)), (19, Sp.is (.bool true)), (20, Sp.is (.pointer (some ⟨B1_2, 64, none⟩))), (21, Sp.is (.slice ao ks.length cap)), (22, Sp.is (.int .i64 ((i : Int)))), (23, Sp.is (.int .i64 (((i - 1 : Nat) : Int)))), (24, Sp.is (.pointer (some ⟨(bO ao), oO ao + (i - 1) * 33, none⟩))), (25, Sp.is (kval y)), (26, Sp.is (.pointer (some ⟨B4_25, 0, none⟩))), (27, Sp.is (dval x.o)), (28, Sp.is (.int .i64 ((bcmp y.o x.o)))), (29, Sp.is (.bool false)), (30, Sp.is (.bool false)), (31, Sp.is (.bool false)), (32, Sp.is (.pointer (some ⟨B4_25, 32, none⟩))), (33, Sp.is (.agg #[VK.s x])), (34, Sp.is (.bool true)), (35, Sp.is (.bool false)), (36, Sp.is (.bool false))] rfl (by kernel_rfl) (by kernel_rfl) (by kernel_rfl)
          ⟨xm rfl rfl rfl rfl rfl, ox_bin rfl rfl trivial (oy rfl rfl) rfl (fun _ => rn_gtr (by simp; omega)) (fun _ => rfl), xm rfl rfl rfl rfl rfl, ox_field rfl rfl (gy rfl rfl rfl) (oy rfl rfl) (fun _ => by kernel_rfl) (fun _ => rfl), ox_load rfl rfl (gy rfl rfl rfl) (oy rfl rfl) (fun _ g => loadsAt (tyKs (.slice ao ks.length cap) rfl) (range_part (L := [bv sa, bv po, [.slice ao ks.length cap]]) (i := 2) (row_of g HB1_2 (by simp)) rfl (by simp [bv_length, zero32_len, hsa.1, hpo.1]))) (fun _ => rfl), ox_move 3 22 (.inl rfl) rfl rfl (gy rfl rfl rfl) (fun _ _ h => h), ox_bin rfl rfl (gy rfl rfl rfl) (oy rfl rfl) rfl (fun _ => rn_sub (by rw [wrap_i64 (by omega) (by omega)]; omega)) (fun _ => rfl), ox_index rfl rfl (gy rfl rfl rfl) (oy rfl rfl) (oy rfl rfl) (fun w => ix_sl Try.underlying56 (by kernel_rfl) (hr.1.1) (by omega) (rfl) w) (fun _ => rfl), ox_load rfl rfl (gy rfl rfl rfl) (oy rfl rfl) (fun _ g => loadsAt (tyK y) (RdK.keyX (hr.kn g) rfl hp hx_y)) (fun _ => rfl), ox_field rfl rfl (gy rfl rfl rfl) (oy rfl rfl) (fun _ => by kernel_rfl) (fun _ => rfl), ox_load rfl rfl (gy rfl rfl rfl) (oy rfl rfl) (fun _ g => loadsAt (tyD x.o x.ho.1) (range_part (L := [bv x.o, [VK.s x]]) (i := 0) (row_of g HB4_25 (by simp)) rfl rfl)) (fun _ => rfl), ox_call (Sp.is (.int .i64 ((bcmp y.o x.o)))) [kval y, dval x.o] rfl rfl (gy rfl rfl rfl) ⟨(oy rfl rfl), (oy rfl rfl), trivial⟩ (is_on fun W g => cmpo_walk y x.o x.ho W) (fun _ _ h => h) (enter_of Try.func80 (by kernel_rfl) rfl), ox_bin rfl rfl (gy rfl rfl rfl) (oy rfl rfl) rfl (fun _ => rn_geq (by rw [bcmp_ge, hc]; rfl)) (fun _ => rfl), ox_pick rfl rfl trivial (oy rfl rfl) (oy rfl rfl) (fun _ => rfl), xm rfl rfl rfl rfl rfl, ox_field rfl rfl (gy rfl rfl rfl) (oy rfl rfl) (fun _ => by kernel_rfl) (fun _ => rfl), ox_load rfl rfl (gy rfl rfl rfl) (oy rfl rfl) (fun _ g => loadsAt (tyT (VK.s x) rfl) (range_part (L := [bv x.o, [VK.s x]]) (i := 1) (row_of g HB4_25 (by simp)) rfl (by simp [bv_length, zero32_len, x.ho.1]))) (fun _ => rfl), ox_call (Sp.is (.bool true)) [.agg #[VK.s x]] rfl rfl (gy rfl rfl rfl) ⟨(oy rfl rfl), trivial⟩ (is_on fun W g => valid_callB hv ((hr.kn g).kt hi hx_x)) (fun _ _ h => h) (enter_of Try.func27 (by kernel_rfl) rfl), ox_un rfl rfl (gy rfl rfl rfl) (oy rfl rfl) (fun _ => rn_not) (fun _ => rfl), ox_pick rfl rfl trivial (oy rfl rfl) (oy rfl rfl) (fun _ => rfl), trivial⟩ fun a36 w36 g36 st36 => ?_
        obtain ⟨hn36, hd36, e36_17, e36_18, e36_19, e36_20, e36_21, e36_22, e36_23, e36_24, e36_25, e36_26, e36_27, e36_28, e36_29, e36_30, e36_31, e36_32, e36_33, e36_34, e36_35, e36_36, e36_3, e36_4, e36_12, e36_1, e36_8, e36_10, e36_11, e36_13, -⟩ := st36
        replace HB1_2 := rw_kn g36 HB1_2
        replace HB4_25 := rw_kn g36 HB4_25
        replace hr := hr.kn g36
        replace HG := grown_trans HG g36
        have sv36 : Sv 38 [{ target := .fn (.func 79) #[], args := #[] }] [(3, .int .i64 ((i : Int))), (4, .pointer (some ⟨B4_25, 0, none⟩)), (12, .int .i64 ((i : Int))), (1, .pointer (some ⟨B1_2, 0, none⟩)), (8, .bool false), (10, .slice ao ks.length cap), (11, .int .i64 ((ks.length : Nat))), (13, .bool true), (36, .bool false)] a36 := ⟨hn36, hd36, e36_3, e36_4, e36_12, e36_1, e36_8, e36_10, e36_11, e36_13, e36_36, trivial⟩
        refine k29 _ _ ?_
        refine cx_ifF sv36 rfl rfl ?_
        refine wp_skip ?_
        refine y22 _ _ ?_
        refine k21 _ _ ?_
        refine wp_region_lit ?_
        refine sx_head (sv36.st w36) 1 [(37, Sp.is (.int .i64 (((i + 1 : Nat) : Int))))] rfl (by kernel_rfl) (by kernel_rfl) (by kernel_rfl)
          ⟨ox_bin rfl rfl trivial (oy rfl rfl) rfl (fun _ => rn_add (by rw [wrap_i64 (by omega) (by omega)]; omega)) (fun _ => rfl), trivial⟩ fun a37 w37 g37 st37 => ?_
        obtain ⟨hn37, hd37, e37_37, e37_3, e37_4, e37_12, e37_1, e37_8, e37_10, e37_11, e37_13, e37_36, -⟩ := st37
        replace HB1_2 := rw_kn g37 HB1_2
        replace HB4_25 := rw_kn g37 HB4_25
        replace hr := hr.kn g37
        replace HG := grown_trans HG g37
        have sv37 : Sv 38 [{ target := .fn (.func 79) #[], args := #[] }] [(3, .int .i64 ((i : Int))), (4, .pointer (some ⟨B4_25, 0, none⟩)), (12, .int .i64 ((i : Int))), (1, .pointer (some ⟨B1_2, 0, none⟩)), (8, .bool false), (10, .slice ao ks.length cap), (11, .int .i64 ((ks.length : Nat))), (13, .bool true), (36, .bool false), (37, .int .i64 (((i + 1 : Nat) : Int)))] a37 := ⟨hn37, hd37, e37_3, e37_4, e37_12, e37_1, e37_8, e37_10, e37_11, e37_13, e37_36, e37_37, trivial⟩
        have sv38c : Sv 38 [{ target := .fn (.func 79) #[], args := #[] }] [(3, .int .i64 ((i : Int))), (4, .pointer (some ⟨B4_25, 0, none⟩)), (1, .pointer (some ⟨B1_2, 0, none⟩)), (8, .bool false), (10, .slice ao ks.length cap), (11, .int .i64 ((ks.length : Nat))), (13, .bool true), (36, .bool false), (37, .int .i64 (((i + 1 : Nat) : Int)))] a37 := ⟨sv37.1, sv37.2.1, sv37.2.2.1, sv37.2.2.2.1, sv37.2.2.2.2.2.1, sv37.2.2.2.2.2.2.1, sv37.2.2.2.2.2.2.2.1, sv37.2.2.2.2.2.2.2.2.1, sv37.2.2.2.2.2.2.2.2.2.1, sv37.2.2.2.2.2.2.2.2.2.2.1, sv37.2.2.2.2.2.2.2.2.2.2.2.1, trivial⟩
        refine sx_head (sv38c.st w37) 1 [(12, Sp.is (.int .i64 (((i + 1 : Nat) : Int))))] rfl (by kernel_rfl) (by kernel_rfl) (by kernel_rfl)
          ⟨xm rfl rfl rfl rfl rfl, trivial⟩ fun a38 w38 g38 st38 => ?_
        obtain ⟨hn38, hd38, e38_12, e38_3, e38_4, e38_1, e38_8, e38_10, e38_11, e38_13, e38_36, e38_37, -⟩ := st38
        replace HB1_2 := rw_kn g38 HB1_2
        replace HB4_25 := rw_kn g38 HB4_25
        replace hr := hr.kn g38
        replace HG := grown_trans HG g38
        have sv38 : Sv 38 [{ target := .fn (.func 79) #[], args := #[] }] [(3, .int .i64 ((i : Int))), (4, .pointer (some ⟨B4_25, 0, none⟩)), (1, .pointer (some ⟨B1_2, 0, none⟩)), (8, .bool false), (10, .slice ao ks.length cap), (11, .int .i64 ((ks.length : Nat))), (13, .bool true), (36, .bool false), (37, .int .i64 (((i + 1 : Nat) : Int))), (12, .int .i64 (((i + 1 : Nat) : Int)))] a38 := ⟨hn38, hd38, e38_3, e38_4, e38_1, e38_8, e38_10, e38_11, e38_13, e38_36, e38_37, e38_12, trivial⟩
        refine tl_nil ?_
        exact ⟨⟨i + 1, by omega, fun k hk => if e : k = i then (by rw [e, hchk]; exact hok) else hb k (by omega), ⟨sv38.1, sv38.2.1, sv38.2.2.2.2.2.2.2.2.2.2.2.1, sv38.2.2.2.2.1, sv38.2.2.2.2.2.1, sv38.2.2.2.2.2.2.1, sv38.2.2.2.2.2.2.2.1, trivial⟩, HG, HB1_2, hr⟩, by rw [show _ = _ from sv38.2.2.2.2.2.2.2.2.2.2.2.1, show _ = _ from sv17.2.2.1]; simp [intOf]; omega⟩
      · refine rx_all (sv28.st w27) (by kernel_rfl) [(17, Sp.is (.int .i64 ((i : Int)))), (18, Sp.is (.bool true)), (19, Sp.is (.bool true)), (20, Sp.is (.pointer (some ⟨B1_2, 64, none⟩))), (21, Sp.is (.slice ao ks.length cap)), (22, Sp.is (.int .i64 ((i : Int)))), (23, Sp.is (.int .i64 (((i - 1 : Nat) : Int)))), (24, Sp.is (.pointer (some ⟨(bO ao), oO ao + (i - 1) * 33, none⟩))), (25, Sp.is (kval y)), (26, Sp.is (.pointer (some ⟨B4_25, 0, none⟩))), (27, Sp.is (dval x.o)), (28, Sp.is (.int .i64 ((bcmp y.o x.o)))), (29, Sp.is (.bool false)), (30, Sp.is (.bool false)), (31, Sp.is (.bool false)), (32, Sp.is (.pointer (some ⟨B4_25, 32, none⟩))), (33, Sp.is (.agg #[VK.s x])), (34, Sp.is (.bool false)), (35, Sp.is (.bool true)), (36, Sp.is (.bool true))] rfl (by kernel_rfl) (by kernel_rfl) (by kernel_rfl)
          ⟨xm rfl rfl rfl rfl rfl, ox_bin rfl rfl trivial (oy rfl rfl) rfl (fun _ => rn_gtr (by simp; omega)) (fun _ => rfl), xm rfl rfl rfl rfl rfl, ox_field rfl rfl (gy rfl rfl rfl) (oy rfl rfl) (fun _ => by kernel_rfl) (fun _ => rfl), ox_load rfl rfl (gy rfl rfl rfl) (oy rfl rfl) (fun _ g => loadsAt (tyKs (.slice ao ks.length cap) rfl) (range_part (L := [bv sa, bv po, [.slice ao ks.length cap]]) (i := 2) (row_of g HB1_2 (by simp)) rfl (by simp [bv_length, zero32_len, hsa.1, hpo.1]))) (fun _ => rfl), ox_move 3 22 (.inl rfl) rfl rfl (gy rfl rfl rfl) (fun _ _ h => h), ox_bin rfl rfl (gy rfl rfl rfl) (oy rfl rfl) rfl (fun _ => rn_sub (by rw [wrap_i64 (by omega) (by omega)]; omega)) (fun _ => rfl), ox_index rfl rfl (gy rfl rfl rfl) (oy rfl rfl) (oy rfl rfl) (fun w => ix_sl Try.underlying56 (by kernel_rfl) (hr.1.1) (by omega) (rfl) w) (fun _ => rfl), ox_load rfl rfl (gy rfl rfl rfl) (oy rfl rfl) (fun _ g => loadsAt (tyK y) (RdK.keyX (hr.kn g) rfl hp hx_y)) (fun _ => rfl), ox_field rfl rfl (gy rfl rfl rfl) (oy rfl rfl) (fun _ => by kernel_rfl) (fun _ => rfl), ox_load rfl rfl (gy rfl rfl rfl) (oy rfl rfl) (fun _ g => loadsAt (tyD x.o x.ho.1) (range_part (L := [bv x.o, [VK.s x]]) (i := 0) (row_of g HB4_25 (by simp)) rfl rfl)) (fun _ => rfl), ox_call (Sp.is (.int .i64 ((bcmp y.o x.o)))) [kval y, dval x.o] rfl rfl (gy rfl rfl rfl) ⟨(oy rfl rfl), (oy rfl rfl), trivial⟩ (is_on fun W g => cmpo_walk y x.o x.ho W) (fun _ _ h => h) (enter_of Try.func80 (by kernel_rfl) rfl), ox_bin rfl rfl (gy rfl rfl rfl) (oy rfl rfl) rfl (fun _ => rn_geq (by rw [bcmp_ge, hc]; rfl)) (fun _ => rfl), ox_pick rfl rfl trivial (oy rfl rfl) (oy rfl rfl) (fun _ => rfl), xm rfl rfl rfl rfl rfl, ox_field rfl rfl (gy rfl rfl rfl) (oy rfl rfl) (fun _ => by kernel_rfl) (fun _ => rfl), ox_load rfl rfl (gy rfl rfl rfl) (oy rfl rfl) (fun _ g => loadsAt (tyT (VK.s x) rfl) (range_part (L := [bv x.o, [VK.s x]]) (i := 1) (row_of g HB4_25 (by simp)) rfl (by simp [bv_length, zero32_len, x.ho.1]))) (fun _ => rfl), ox_call (Sp.is (.bool false)) [.agg #[VK.s x]] rfl rfl (gy rfl rfl rfl) ⟨(oy rfl rfl), trivial⟩ (is_on fun W g => valid_callB hv ((hr.kn g).kt hi hx_x)) (fun _ _ h => h) (enter_of Try.func27 (by kernel_rfl) rfl), ox_un rfl rfl (gy rfl rfl rfl) (oy rfl rfl) (fun _ => rn_not) (fun _ => rfl), ox_pick rfl rfl trivial (oy rfl rfl) (oy rfl rfl) (fun _ => rfl), trivial⟩ fun a39 w39 g39 st39 => ?_
        obtain ⟨hn39, hd39, e39_17, e39_18, e39_19, e39_20, e39_21, e39_22, e39_23, e39_24, e39_25, e39_26, e39_27, e39_28, e39_29, e39_30, e39_31, e39_32, e39_33, e39_34, e39_35, e39_36, e39_3, e39_4, e39_12, e39_1, e39_8, e39_10, e39_11, e39_13, -⟩ := st39
        replace HB1_2 := rw_kn g39 HB1_2
        replace HB4_25 := rw_kn g39 HB4_25
        replace hr := hr.kn g39
        replace HG := grown_trans HG g39
        have sv39 : Sv 38 [{ target := .fn (.func 79) #[], args := #[] }] [(3, .int .i64 ((i : Int))), (4, .pointer (some ⟨B4_25, 0, none⟩)), (12, .int .i64 ((i : Int))), (1, .pointer (some ⟨B1_2, 0, none⟩)), (8, .bool false), (10, .slice ao ks.length cap), (11, .int .i64 ((ks.length : Nat))), (13, .bool true), (36, .bool true)] a39 := ⟨hn39, hd39, e39_3, e39_4, e39_12, e39_1, e39_8, e39_10, e39_11, e39_13, e39_36, trivial⟩
        refine k29 _ _ ?_
        refine cx_ifT sv39 rfl rfl ?_
        refine wp_seq_k fun K40 k40 => ?_
        refine wp_region_lit ?_
        refine tl_assign sv39 rfl (.inl rfl) rfl rfl rfl rfl fun a41 sv41 => ?_
        replace sv41 : Sv 38 [{ target := .fn (.func 79) #[], args := #[] }] [(2, .bool false), (3, .int .i64 ((i : Int))), (4, .pointer (some ⟨B4_25, 0, none⟩)), (12, .int .i64 ((i : Int))), (1, .pointer (some ⟨B1_2, 0, none⟩)), (8, .bool false), (10, .slice ao ks.length cap), (11, .int .i64 ((ks.length : Nat))), (13, .bool true), (36, .bool true)] a41 := sv41
        refine tl_nil ?_
        refine k40 _ _ ?_
        refine wp_ret ?_
        repeat refine then_ret ?_
        refine r22 _ _ ?_
        repeat refine then_ret ?_
        refine r16 _ _ ?_
        repeat refine then_ret ?_
        refine cx_retD (fn := Try.f45) sv41 (res_tmp (p := 2) Try.results45 sv41 rfl rfl) (inv_of Try.func79 (by kernel_rfl) rfl _ _) (recValidVault_walk _) ?_
        exact ⟨retB ((vldV_no (i := i) (by rw [hmap]; exact hi) (by rw [hchk]; simp [hv, hc, Nat.ne_of_gt hz])).symm), HG⟩
      · refine rx_all (sv28.st w27) (by kernel_rfl) [(17, Sp.is (.int .i64 ((i : Int)))), (18, Sp.is (.bool true)), (19, Sp.is (.bool true)), (20, Sp.is (.pointer (some ⟨B1_2, 64, none⟩))), (21, Sp.is (.slice ao ks.length cap)), (22, Sp.is (.int .i64 ((i : Int)))), (23, Sp.is (.int .i64 (((i - 1 : Nat) : Int)))), (24, Sp.is (.pointer (some ⟨(bO ao), oO ao + (i - 1) * 33, none⟩))), (25, Sp.is (kval y)), (26, Sp.is (.pointer (some ⟨B4_25, 0, none⟩))), (27, Sp.is (dval x.o)), (28, Sp.is (.int .i64 ((bcmp y.o x.o)))), (29, Sp.is (.bool true)), (30, Sp.is (.bool true)), (31, Sp.is (.bool true)), (32, Sp.is (undef)), (33, Sp.is (undef)), (34, Sp.is (undef)), (35, Sp.is (undef)), (36, Sp.is (.bool true))] rfl (by kernel_rfl) (by kernel_rfl) (by kernel_rfl)
          ⟨xm rfl rfl rfl rfl rfl, ox_bin rfl rfl trivial (oy rfl rfl) rfl (fun _ => rn_gtr (by simp; omega)) (fun _ => rfl), xm rfl rfl rfl rfl rfl, ox_field rfl rfl (gy rfl rfl rfl) (oy rfl rfl) (fun _ => by kernel_rfl) (fun _ => rfl), ox_load rfl rfl (gy rfl rfl rfl) (oy rfl rfl) (fun _ g => loadsAt (tyKs (.slice ao ks.length cap) rfl) (range_part (L := [bv sa, bv po, [.slice ao ks.length cap]]) (i := 2) (row_of g HB1_2 (by simp)) rfl (by simp [bv_length, zero32_len, hsa.1, hpo.1]))) (fun _ => rfl), ox_move 3 22 (.inl rfl) rfl rfl (gy rfl rfl rfl) (fun _ _ h => h), ox_bin rfl rfl (gy rfl rfl rfl) (oy rfl rfl) rfl (fun _ => rn_sub (by rw [wrap_i64 (by omega) (by omega)]; omega)) (fun _ => rfl), ox_index rfl rfl (gy rfl rfl rfl) (oy rfl rfl) (oy rfl rfl) (fun w => ix_sl Try.underlying56 (by kernel_rfl) (hr.1.1) (by omega) (rfl) w) (fun _ => rfl), ox_load rfl rfl (gy rfl rfl rfl) (oy rfl rfl) (fun _ g => loadsAt (tyK y) (RdK.keyX (hr.kn g) rfl hp hx_y)) (fun _ => rfl), ox_field rfl rfl (gy rfl rfl rfl) (oy rfl rfl) (fun _ => by kernel_rfl) (fun _ => rfl), ox_load rfl rfl (gy rfl rfl rfl) (oy rfl rfl) (fun _ g => loadsAt (tyD x.o x.ho.1) (range_part (L := [bv x.o, [VK.s x]]) (i := 0) (row_of g HB4_25 (by simp)) rfl rfl)) (fun _ => rfl), ox_call (Sp.is (.int .i64 ((bcmp y.o x.o)))) [kval y, dval x.o] rfl rfl (gy rfl rfl rfl) ⟨(oy rfl rfl), (oy rfl rfl), trivial⟩ (is_on fun W g => cmpo_walk y x.o x.ho W) (fun _ _ h => h) (enter_of Try.func80 (by kernel_rfl) rfl), ox_bin rfl rfl (gy rfl rfl rfl) (oy rfl rfl) rfl (fun _ => rn_geq (by rw [bcmp_ge, hc]; rfl)) (fun _ => rfl), ox_pick rfl rfl trivial (oy rfl rfl) (oy rfl rfl) (fun _ => rfl), xm rfl rfl rfl rfl rfl, ox_off (gn rfl rfl rfl) rfl (fun _ => rfl), ox_off (gn rfl rfl rfl) rfl (fun _ => rfl), ox_off (gn rfl rfl rfl) rfl (fun _ => rfl), ox_off (gn rfl rfl rfl) rfl (fun _ => rfl), ox_pick rfl rfl trivial (oy rfl rfl) rfl (fun _ => rfl), trivial⟩ fun a42 w42 g42 st42 => ?_
        obtain ⟨hn42, hd42, e42_17, e42_18, e42_19, e42_20, e42_21, e42_22, e42_23, e42_24, e42_25, e42_26, e42_27, e42_28, e42_29, e42_30, e42_31, e42_32, e42_33, e42_34, e42_35, e42_36, e42_3, e42_4, e42_12, e42_1, e42_8, e42_10, e42_11, e42_13, -⟩ := st42
        replace HB1_2 := rw_kn g42 HB1_2
        replace HB4_25 := rw_kn g42 HB4_25
        replace hr := hr.kn g42
        replace HG := grown_trans HG g42
        have sv42 : Sv 38 [{ target := .fn (.func 79) #[], args := #[] }] [(3, .int .i64 ((i : Int))), (4, .pointer (some ⟨B4_25, 0, none⟩)), (12, .int .i64 ((i : Int))), (1, .pointer (some ⟨B1_2, 0, none⟩)), (8, .bool false), (10, .slice ao ks.length cap), (11, .int .i64 ((ks.length : Nat))), (13, .bool true), (36, .bool true)] a42 := ⟨hn42, hd42, e42_3, e42_4, e42_12, e42_1, e42_8, e42_10, e42_11, e42_13, e42_36, trivial⟩
        refine k29 _ _ ?_
        refine cx_ifT sv42 rfl rfl ?_
        refine wp_seq_k fun K43 k43 => ?_
        refine wp_region_lit ?_
        refine tl_assign sv42 rfl (.inl rfl) rfl rfl rfl rfl fun a44 sv44 => ?_
        replace sv44 : Sv 38 [{ target := .fn (.func 79) #[], args := #[] }] [(2, .bool false), (3, .int .i64 ((i : Int))), (4, .pointer (some ⟨B4_25, 0, none⟩)), (12, .int .i64 ((i : Int))), (1, .pointer (some ⟨B1_2, 0, none⟩)), (8, .bool false), (10, .slice ao ks.length cap), (11, .int .i64 ((ks.length : Nat))), (13, .bool true), (36, .bool true)] a44 := sv44
        refine tl_nil ?_
        refine k43 _ _ ?_
        refine wp_ret ?_
        repeat refine then_ret ?_
        refine r22 _ _ ?_
        repeat refine then_ret ?_
        refine r16 _ _ ?_
        repeat refine then_ret ?_
        refine cx_retD (fn := Try.f45) sv44 (res_tmp (p := 2) Try.results45 sv44 rfl rfl) (inv_of Try.func79 (by kernel_rfl) rfl _ _) (recValidVault_walk _) ?_
        exact ⟨retB ((vldV_no (i := i) (by rw [hmap]; exact hi) (by rw [hchk]; simp [hv, hc, Nat.ne_of_gt hz])).symm), HG⟩
      · refine rx_all (sv28.st w27) (by kernel_rfl) [(17, Sp.is (.int .i64 ((i : Int)))), (18, Sp.is (.bool true)), (19, Sp.is (.bool true)), (20, Sp.is (.pointer (some ⟨B1_2, 64, none⟩))), (21, Sp.is (.slice ao ks.length cap)), (22, Sp.is (.int .i64 ((i : Int)))), (23, Sp.is (.int .i64 (((i - 1 : Nat) : Int)))), (24, Sp.is (.pointer (some ⟨(bO ao), oO ao + (i - 1) * 33, none⟩))), (25, Sp.is (kval y)), (26, Sp.is (.pointer (some ⟨B4_25, 0, none⟩))), (27, Sp.is (dval x.o)), (28, Sp.is (.int .i64 ((bcmp y.o x.o)))), (29, Sp.is (.bool true)), (30, Sp.is (.bool true)), (31, Sp.is (.bool true)), (32, Sp.is (undef)), (33, Sp.is (undef)), (34, Sp.is (undef)), (35, Sp.is (undef)), (36, Sp.is (.bool true))] rfl (by kernel_rfl) (by kernel_rfl) (by kernel_rfl)
          ⟨xm rfl rfl rfl rfl rfl, ox_bin rfl rfl trivial (oy rfl rfl) rfl (fun _ => rn_gtr (by simp; omega)) (fun _ => rfl), xm rfl rfl rfl rfl rfl, ox_field rfl rfl (gy rfl rfl rfl) (oy rfl rfl) (fun _ => by kernel_rfl) (fun _ => rfl), ox_load rfl rfl (gy rfl rfl rfl) (oy rfl rfl) (fun _ g => loadsAt (tyKs (.slice ao ks.length cap) rfl) (range_part (L := [bv sa, bv po, [.slice ao ks.length cap]]) (i := 2) (row_of g HB1_2 (by simp)) rfl (by simp [bv_length, zero32_len, hsa.1, hpo.1]))) (fun _ => rfl), ox_move 3 22 (.inl rfl) rfl rfl (gy rfl rfl rfl) (fun _ _ h => h), ox_bin rfl rfl (gy rfl rfl rfl) (oy rfl rfl) rfl (fun _ => rn_sub (by rw [wrap_i64 (by omega) (by omega)]; omega)) (fun _ => rfl), ox_index rfl rfl (gy rfl rfl rfl) (oy rfl rfl) (oy rfl rfl) (fun w => ix_sl Try.underlying56 (by kernel_rfl) (hr.1.1) (by omega) (rfl) w) (fun _ => rfl), ox_load rfl rfl (gy rfl rfl rfl) (oy rfl rfl) (fun _ g => loadsAt (tyK y) (RdK.keyX (hr.kn g) rfl hp hx_y)) (fun _ => rfl), ox_field rfl rfl (gy rfl rfl rfl) (oy rfl rfl) (fun _ => by kernel_rfl) (fun _ => rfl), ox_load rfl rfl (gy rfl rfl rfl) (oy rfl rfl) (fun _ g => loadsAt (tyD x.o x.ho.1) (range_part (L := [bv x.o, [VK.s x]]) (i := 0) (row_of g HB4_25 (by simp)) rfl rfl)) (fun _ => rfl), ox_call (Sp.is (.int .i64 ((bcmp y.o x.o)))) [kval y, dval x.o] rfl rfl (gy rfl rfl rfl) ⟨(oy rfl rfl), (oy rfl rfl), trivial⟩ (is_on fun W g => cmpo_walk y x.o x.ho W) (fun _ _ h => h) (enter_of Try.func80 (by kernel_rfl) rfl), ox_bin rfl rfl (gy rfl rfl rfl) (oy rfl rfl) rfl (fun _ => rn_geq (by rw [bcmp_ge, hc]; rfl)) (fun _ => rfl), ox_pick rfl rfl trivial (oy rfl rfl) (oy rfl rfl) (fun _ => rfl), xm rfl rfl rfl rfl rfl, ox_off (gn rfl rfl rfl) rfl (fun _ => rfl), ox_off (gn rfl rfl rfl) rfl (fun _ => rfl), ox_off (gn rfl rfl rfl) rfl (fun _ => rfl), ox_off (gn rfl rfl rfl) rfl (fun _ => rfl), ox_pick rfl rfl trivial (oy rfl rfl) rfl (fun _ => rfl), trivial⟩ fun a45 w45 g45 st45 => ?_
        obtain ⟨hn45, hd45, e45_17, e45_18, e45_19, e45_20, e45_21, e45_22, e45_23, e45_24, e45_25, e45_26, e45_27, e45_28, e45_29, e45_30, e45_31, e45_32, e45_33, e45_34, e45_35, e45_36, e45_3, e45_4, e45_12, e45_1, e45_8, e45_10, e45_11, e45_13, -⟩ := st45
        replace HB1_2 := rw_kn g45 HB1_2
        replace HB4_25 := rw_kn g45 HB4_25
        replace hr := hr.kn g45
        replace HG := grown_trans HG g45
        have sv45 : Sv 38 [{ target := .fn (.func 79) #[], args := #[] }] [(3, .int .i64 ((i : Int))), (4, .pointer (some ⟨B4_25, 0, none⟩)), (12, .int .i64 ((i : Int))), (1, .pointer (some ⟨B1_2, 0, none⟩)), (8, .bool false), (10, .slice ao ks.length cap), (11, .int .i64 ((ks.length : Nat))), (13, .bool true), (36, .bool true)] a45 := ⟨hn45, hd45, e45_3, e45_4, e45_12, e45_1, e45_8, e45_10, e45_11, e45_13, e45_36, trivial⟩
        refine k29 _ _ ?_
        refine cx_ifT sv45 rfl rfl ?_
        refine wp_seq_k fun K46 k46 => ?_
        refine wp_region_lit ?_
        refine tl_assign sv45 rfl (.inl rfl) rfl rfl rfl rfl fun a47 sv47 => ?_
        replace sv47 : Sv 38 [{ target := .fn (.func 79) #[], args := #[] }] [(2, .bool false), (3, .int .i64 ((i : Int))), (4, .pointer (some ⟨B4_25, 0, none⟩)), (12, .int .i64 ((i : Int))), (1, .pointer (some ⟨B1_2, 0, none⟩)), (8, .bool false), (10, .slice ao ks.length cap), (11, .int .i64 ((ks.length : Nat))), (13, .bool true), (36, .bool true)] a47 := sv47
        refine tl_nil ?_
        refine k46 _ _ ?_
        refine wp_ret ?_
        repeat refine then_ret ?_
        refine r22 _ _ ?_
        repeat refine then_ret ?_
        refine r16 _ _ ?_
        repeat refine then_ret ?_
        refine cx_retD (fn := Try.f45) sv47 (res_tmp (p := 2) Try.results45 sv47 rfl rfl) (inv_of Try.func79 (by kernel_rfl) rfl _ _) (recValidVault_walk _) ?_
        exact ⟨retB ((vldV_no (i := i) (by rw [hmap]; exact hi) (by rw [hchk]; simp [hv, hc, Nat.ne_of_gt hz])).symm), HG⟩
    · refine wp_region_lit ?_
      refine sx_head (sv17.st w17) 1 [(13, Sp.is (.bool false))] rfl (by kernel_rfl) (by kernel_rfl) (by kernel_rfl)
        ⟨ox_bin rfl rfl trivial (oy rfl rfl) (oy rfl rfl) (fun _ => rn_lss (by simp; omega)) (fun _ => rfl), trivial⟩ fun a48 w48 g48 st48 => ?_
      obtain ⟨hn48, hd48, e48_13, e48_12, e48_1, e48_8, e48_10, e48_11, -⟩ := st48
      replace HB1_2 := rw_kn g48 HB1_2
      replace hr := hr.kn g48
      replace HG := grown_trans HG g48
      have sv48 : Sv 38 [{ target := .fn (.func 79) #[], args := #[] }] [(12, .int .i64 ((i : Int))), (1, .pointer (some ⟨B1_2, 0, none⟩)), (8, .bool false), (10, .slice ao ks.length cap), (11, .int .i64 ((ks.length : Nat))), (13, .bool false)] a48 := ⟨hn48, hd48, e48_12, e48_1, e48_8, e48_10, e48_11, e48_13, trivial⟩
      refine tl_nil ?_
      refine k18 _ _ ?_
      refine wp_seq_k fun K49 k49 => ?_
      refine cx_ifF sv48 rfl rfl ?_
      refine wp_exit ?_
      repeat refine then_exit ?_
      refine x16 _ _ ?_
      refine k13 _ _ ?_
      refine wp_seq_k fun K50 k50 => ?_
      refine wp_region_lit ?_
      refine tl_assign sv48 rfl (.inl rfl) rfl rfl rfl rfl fun a51 sv51 => ?_
      replace sv51 : Sv 38 [{ target := .fn (.func 79) #[], args := #[] }] [(2, .bool true), (12, .int .i64 ((i : Int))), (1, .pointer (some ⟨B1_2, 0, none⟩)), (8, .bool false), (10, .slice ao ks.length cap), (11, .int .i64 ((ks.length : Nat))), (13, .bool false)] a51 := sv51
      refine tl_nil ?_
      refine k50 _ _ ?_
      refine wp_ret ?_
      repeat refine then_ret ?_
      refine cx_retD (fn := Try.f45) sv51 (res_tmp (p := 2) Try.results45 sv51 rfl rfl) (inv_of Try.func79 (by kernel_rfl) rfl _ _) (recValidVault_walk _) ?_
      exact ⟨retB ((vldV_yes (by omega) fun k hk => hb k (by omega)).symm), HG⟩
end Go.Proofs.Yteakoleceoclkaa
