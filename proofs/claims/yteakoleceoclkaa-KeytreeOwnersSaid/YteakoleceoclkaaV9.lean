/- Vaults: Shred, Drop. (printed by gen_v9.py) -/
import Derived.Test.YteakoleceoclkaaV8
namespace Go.Proofs.Yteakoleceoclkaa
open Go.RowKit Go.Shelf
set_option linter.unusedSimpArgs false
set_option linter.unusedVariables false
def Sp.puncF (B : Nat) (r : List Nd × Int) : Sp := ⟨fun w v => ∃ ao cap, v = .tuple #[.agg #[.slice ao r.1.length cap], .int .i64 r.2] ∧ RdTg w (.slice ao r.1.length cap) r.1 ∧ ∀ k, fpS (.slice ao r.1.length cap) k → B ≤ k, fun _ _ _ hg ⟨ao, cap, h1, h2, h3⟩ => ⟨ao, cap, h1, h2.kn hg, h3⟩⟩
theorem puncF_tree {B : Nat} {r : List Nd × Int} (w : World) (u : Value) (h : (Sp.puncF B r).on w u) : ∃ vs v, u = .tuple vs ∧ vs[0]? = some v ∧ (Sp.ct B r.1).on w v := by
  obtain ⟨ao, cap, h1, h2, h3⟩ := h
  exact ⟨_, _, h1, rfl, ao, cap, rfl, h2, h3⟩
theorem puncF_err {B : Nat} {r : List Nd × Int} (w : World) (u : Value) (h : (Sp.puncF B r).on w u) : ∃ vs v, u = .tuple vs ∧ vs[1]? = some v ∧ (Sp.is (.int .i64 r.2)).on w v := by
  obtain ⟨ao, cap, h1, h2, h3⟩ := h
  exact ⟨_, _, h1, rfl, rfl⟩
theorem punct_onF {w0 : World} {s : Value} {l : List Nd} {a : Int} {r : List Nd × Int} (hr : punOf l a = r) (h : RdT w0 s l) : ∀ W, w0.grownBy W none → Calls Try.prog 24 #[.agg #[s], .int .i64 a] W fun e W' => ∃ v, e = .returned v ∧ W.grownBy W' none ∧ (Sp.puncF w0.heap.size r).on W' v := fun W g => by
  subst hr
  have h2 := h.2.1
  obtain ⟨L, rfl, hL⟩ := (h.kn g).k
  refine (punct_walk L s a W hL).mono fun e W' ⟨v, h1, h3, h4⟩ => ?_
  obtain ⟨ao, cap, rfl, _⟩ := (Sl.of_own h3).shape
  exact ⟨_, h1, h4.none, ao, cap, rfl, ⟨⟨Sl.of_own h3, punOf_ok h2 a, Own.lt h3, by have := punOf_len (l := L.map (·.1)) a; omega⟩, Tag.of h3⟩, fun k hk => Nat.le_trans g.size ((h4.2 k hk).elim (fun h => by simp [Value.ownBlock] at h) id)⟩
theorem map_set {ms : List VK} {P : List VP} {o : List Nat} {T : List Nd} {z el : VK} {i : Nat} (h : ms.map VK.p = P) (hf : fnd P o = true) (hi : pos P o = i) (him : i < ms.length) (hz : ms[i] = z) (ho : el.o = z.o) (hl : el.l = T) : (ms.set i el).map VK.p = setV P o T := by
  rw [setV_set T hf, List.map_set, h, hi]
  have h1 := (fnd_at hf).2
  rw [hi, ← h, od_map him, hz] at h1
  unfold VK.p
  rw [ho, hl, h1]
theorem map_del {ms : List VK} {P : List VP} {o : List Nat} {i : Nat} (h : ms.map VK.p = P) (hi : pos P o = i) : (ms.take i ++ ms.drop (i + 1)).map VK.p = dropV P o := by
  unfold dropV
  rw [hi, List.map_append, List.map_take, List.map_drop, h]
theorem KsT.del {w : World} {ms : List VK} (h : KsT w ms) (i : Nat) : KsT w (ms.take i ++ ms.drop (i + 1)) := by
  have hh : ∀ k, k ∈ ms.take i ++ ms.drop (i + 1) → k ∈ ms := fun k hk => by
    rcases List.mem_append.1 hk with hk | hk
    · exact List.mem_of_mem_take hk
    · exact List.mem_of_mem_drop hk
  exact ⟨fun k hk => h.1 k (hh k hk), fun b ⟨k, hk, hb⟩ => h.2 b ⟨k, hh k hk, hb⟩⟩
theorem KsR.del {w : World} {ms : List VK} (h : KsR w ms) (i : Nat) : KsR w (ms.take i ++ ms.drop (i + 1)) := fun k hk => by
  rcases List.mem_append.1 hk with hk | hk
  · exact h k (List.mem_of_mem_take hk)
  · exact h k (List.mem_of_mem_drop hk)
theorem del_call {ms : List VK} {i A n : Nat} {w : World} (hn : n = ms.length) (hown : Own w 65 33 (.slice (some ⟨A, 0, none⟩) n n) n (ms.flatMap kcells)) (hi : i < n) (h64 : n ≤ 64) :
    Calls Try.prog 73 #[.slice (some ⟨A, 0, none⟩) n n, .int .i64 (i : Int), .int .i64 ((i + 1 : Nat) : Int)] w fun e w' => ∃ v, e = .returned v ∧ ∃ ao cap, v = .slice ao (n - 1) cap ∧ Own w' 65 33 (.slice ao (n - 1) cap) (n - 1) ((ms.take i ++ ms.drop (i + 1)).flatMap kcells) ∧ w.grownBy w' (some A) ∧ ∀ k, fpS (.slice ao (n - 1) cap) k → k = A ∨ w.heap.size ≤ k := by
  subst hn
  have e : ((i + 1 : Nat) : Int) = (i : Int) + 1 := by omega
  have e2 : (ms.take i ++ ms.drop (i + 1)).length = ms.length - 1 := by simp; omega
  rw [e]
  refine (delete_walk ms i _ w hown hi (by omega)).mono fun e W' ⟨v, h1, h2, h3, h4⟩ => ?_
  rw [e2] at h2
  obtain ⟨ao, cap, rfl, _⟩ := (Sl.of_own h2).shape
  exact ⟨_, h1, ao, cap, rfl, h2, h3, fun k hk => (h4 k hk).elim (fun h => .inl (Option.some.inj h).symm) .inr⟩
theorem take_build0 {P : Program} {ops : Array Oper} {S : World → Prop} {K : Act → Prop} {o : Oper} {r : List Oper} {a : Act} {v : Value} (hg : o.guard = none) (T : TypeId) (ho : o.op = .build T #[]) (hr : ∀ w, (Instr.build T #[]).run P w = .ok v w) (h : wpTake P ops S K r (a.put o.dst v)) : wpTake P ops S K (o :: r) a :=
  take_run hg (fun w _ => by simp only [execOp, ho, List.map_toArray, List.map_nil, Sem.run_bind, Sem.run_pure, Result.andThen_ok, hr w]) h
theorem shrO_bad {v : VV} {o : List Nat} {a : Int} (h : isAddr a = false ∨ vldV v.1 = false) : shrO v o a = (zeroV, 1) := by
  unfold shrO
  rcases h with h | h <;> simp [h]
theorem shrO_none {v : VV} {o : List Nat} {a : Int} (h1 : isAddr a = true) (h2 : vldV v.1 = true) (h3 : fnd v.1 o = false) : shrO v o a = (zeroV, 10) := by
  unfold shrO
  simp [h1, h2, h3]
theorem shrO_err {v : VV} {o : List Nat} {a : Int} (h1 : isAddr a = true) (h2 : vldV v.1 = true) (h3 : fnd v.1 o = true) {i : Nat} (hi : pos v.1 o = i) {l : List Nd} (hl : tr v.1 i = l) {q : List Nd × Int} (hq : punOf l a = q) (h0 : ¬ q.2 = 0) : shrO v o a = (zeroV, q.2) := by
  unfold shrO
  simp [h1, h2, h3, hi, hl, hq, h0]
theorem shrO_ok {v : VV} {o : List Nat} {a : Int} (h1 : isAddr a = true) (h2 : vldV v.1 = true) (h3 : fnd v.1 o = true) {i : Nat} (hi : pos v.1 o = i) {l : List Nd} (hl : tr v.1 i = l) {q : List Nd × Int} (hq : punOf l a = q) (h0 : q.2 = 0) : shrO v o a = ((setV v.1 o q.1, v.2.1, v.2.2), 0) := by
  unfold shrO
  simp [h1, h2, h3, hi, hl, hq, h0]
set_option maxRecDepth 100000 in
set_option maxHeartbeats 4000000 in
theorem shr_walk (ks : List VK) (ao : Option Addr) (cap : Nat) (sa po : List Nat) (hsa : Dg sa) (hpo : Dg po) (o : List Nat) (ho : Dg o) (a : Int) (w : World) (hr : RdK w (.slice ao ks.length cap) ks) :
    Calls Try.prog 42 #[vval sa po (.slice ao ks.length cap), dval o, .int .i64 a] w fun e w' => VRes w w' (shrO (ks.map VK.p, sa, po) o a) (fun _ => False) e := by
  refine cx_enterD Try.func42 rfl Try.ntmps42 rfl fun a0 sv0 => ?_
  have HG := World.grownBy.refl w none
  replace sv0 : Sv 54 [] [(0, vval sa po (.slice ao ks.length cap)), (1, dval o), (2, .int .i64 a)] a0 := sv0
  refine wp_seq_k fun K1 k1 => ?_
  refine wp_region_lit ?_
  refine tl_box sv0 rfl rfl rfl rfl rfl rfl (tyVa hsa hpo (.slice ao ks.length cap) rfl) fun a2 w2 B3_2 eq_B3_2 g2 z2 HB3_2 sv2 => ?_
  have lo_B3_2 := nb_lo HG eq_B3_2
  have ap_hr_B3_2 := nb_ap (hr.lt) eq_B3_2
  replace hr := hr.kn g2
  replace HG := grown_trans HG g2
  replace sv2 : Sv 54 [] [(3, .pointer (some ⟨B3_2, 0, none⟩)), (0, vval sa po (.slice ao ks.length cap)), (1, dval o), (2, .int .i64 a)] a2 := sv2
  refine tl_box sv2 rfl rfl rfl rfl rfl rfl (tyD o ho.1) fun a3 w3 B4_3 eq_B4_3 g3 z3 HB4_3 sv3 => ?_
  have ne_B4_3_B3_2 := nb_ne HB3_2 eq_B4_3
  have lo_B4_3 := nb_lo HG eq_B4_3
  have ap_hr_B4_3 := nb_ap (hr.lt) eq_B4_3
  replace HB3_2 := rw_kn g3 HB3_2
  replace hr := hr.kn g3
  replace HG := grown_trans HG g3
  replace sv3 : Sv 54 [] [(4, .pointer (some ⟨B4_3, 0, none⟩)), (3, .pointer (some ⟨B3_2, 0, none⟩)), (0, vval sa po (.slice ao ks.length cap)), (1, dval o), (2, .int .i64 a)] a3 := sv3
  refine tl_alloc (T := 58) (Z := ([bv zero32, bv zero32, [.slice none 0 0]].flatten)) sv3 rfl rfl rfl (fun a w => by kernel_rfl) fun a4 w4 B6_4 eq_B6_4 g4 z4 HB6_4 sv4 => ?_
  have ne_B6_4_B3_2 := nb_ne HB3_2 eq_B6_4
  have ne_B6_4_B4_3 := nb_ne HB4_3 eq_B6_4
  have lo_B6_4 := nb_lo HG eq_B6_4
  have ap_hr_B6_4 := nb_ap (hr.lt) eq_B6_4
  replace HB3_2 := rw_kn g4 HB3_2
  replace HB4_3 := rw_kn g4 HB4_3
  replace hr := hr.kn g4
  replace HG := grown_trans HG g4
  replace sv4 : Sv 54 [] [(6, .pointer (some ⟨B6_4, 0, none⟩)), (4, .pointer (some ⟨B4_3, 0, none⟩)), (3, .pointer (some ⟨B3_2, 0, none⟩)), (0, vval sa po (.slice ao ks.length cap)), (1, dval o), (2, .int .i64 a)] a4 := sv4
  refine tl_alloc (T := 23) (Z := [.int .i64 0]) sv4 rfl rfl rfl (fun a w => by kernel_rfl) fun a5 w5 B7_5 eq_B7_5 g5 z5 HB7_5 sv5 => ?_
  have ne_B7_5_B3_2 := nb_ne HB3_2 eq_B7_5
  have ne_B7_5_B4_3 := nb_ne HB4_3 eq_B7_5
  have ne_B7_5_B6_4 := nb_ne HB6_4 eq_B7_5
  have lo_B7_5 := nb_lo HG eq_B7_5
  have ap_hr_B7_5 := nb_ap (hr.lt) eq_B7_5
  replace HB3_2 := rw_kn g5 HB3_2
  replace HB4_3 := rw_kn g5 HB4_3
  replace HB6_4 := rw_kn g5 HB6_4
  replace hr := hr.kn g5
  replace HG := grown_trans HG g5
  replace sv5 : Sv 54 [] [(7, .pointer (some ⟨B7_5, 0, none⟩)), (6, .pointer (some ⟨B6_4, 0, none⟩)), (4, .pointer (some ⟨B4_3, 0, none⟩)), (3, .pointer (some ⟨B3_2, 0, none⟩)), (0, vval sa po (.slice ao ks.length cap)), (1, dval o), (2, .int .i64 a)] a5 := sv5
  have sv6 : Sv 54 [] [(7, .pointer (some ⟨B7_5, 0, none⟩)), (6, .pointer (some ⟨B6_4, 0, none⟩)), (4, .pointer (some ⟨B4_3, 0, none⟩)), (3, .pointer (some ⟨B3_2, 0, none⟩)), (2, .int .i64 a)] a5 := ⟨sv5.1, sv5.2.1, sv5.2.2.1, sv5.2.2.2.1, sv5.2.2.2.2.1, sv5.2.2.2.2.2.1, sv5.2.2.2.2.2.2.2.2.1, trivial⟩
  refine tl_nil ?_
  refine k1 _ _ ?_
  refine wp_seq_k fun K7 k7 => ?_
  refine wp_region_lit ?_
  refine tl_makeFunc sv6 rfl rfl rfl rfl rfl rfl fun a8 sv8 => ?_
  replace sv8 : Sv 54 [] [(11, .func (.func 78) #[] #[.pointer (some ⟨B6_4, 0, none⟩), .pointer (some ⟨B7_5, 0, none⟩)]), (7, .pointer (some ⟨B7_5, 0, none⟩)), (6, .pointer (some ⟨B6_4, 0, none⟩)), (4, .pointer (some ⟨B4_3, 0, none⟩)), (3, .pointer (some ⟨B3_2, 0, none⟩)), (2, .int .i64 a)] a8 := sv8
  refine tl_defer sv8 rfl (dd := { target := .fn (.func 78) #[.pointer (some ⟨B6_4, 0, none⟩), .pointer (some ⟨B7_5, 0, none⟩)], args := #[] }) rfl (by have e1 := sv8.ev (x := .tmp 11) rfl rfl; simp [execOp, resolve, Deferred.ofValue, e1]; try rfl) fun a9 sv9 => ?_
  have sv10 : Sv 54 [{ target := .fn (.func 78) #[.pointer (some ⟨B6_4, 0, none⟩), .pointer (some ⟨B7_5, 0, none⟩)], args := #[] }] [(7, .pointer (some ⟨B7_5, 0, none⟩)), (6, .pointer (some ⟨B6_4, 0, none⟩)), (4, .pointer (some ⟨B4_3, 0, none⟩)), (3, .pointer (some ⟨B3_2, 0, none⟩)), (2, .int .i64 a)] a9 := ⟨sv9.1, sv9.2.1, sv9.2.2.2.1, sv9.2.2.2.2.1, sv9.2.2.2.2.2.1, sv9.2.2.2.2.2.2.1, sv9.2.2.2.2.2.2.2.1, trivial⟩
  refine tl_nil ?_
  refine k7 _ _ ?_
  refine wp_seq_k fun K11 k11 => ?_
  refine wp_seq_k fun K12 k12 => ?_
  rcases (show isAddr a = false ∨ (isAddr a = true ∧ vldV (ks.map VK.p) = false) ∨ (isAddr a = true ∧ vldV (ks.map VK.p) = true) by cases isAddr a <;> cases vldV (ks.map VK.p) <;> simp) with ha | ⟨ha, hv⟩ | ⟨ha, hv⟩
  · refine wp_region_lit ?_
    refine sx_head (sv10.st w5) 8 [(12, Sp.is (.int .i64 a)), (13, Sp.is (.bool false)), (14, Sp.is (.bool true)), (15, Sp.is (.bool true)), (16, Sp.is (undef)), (17, Sp.is (undef)), (18, Sp.is (undef)), (19, Sp.is (.bool true))] rfl (by kernel_rfl) (by kernel_rfl) (by kernel_rfl)
      ⟨xm rfl rfl rfl rfl rfl, ox_call (Sp.is (.bool false)) [.int .i64 a] rfl rfl trivial ⟨(oy rfl rfl), trivial⟩ (is_on fun W g => isaddr_B ha W) (fun _ _ h => h) (enter_of Try.func53 (by kernel_rfl) rfl), ox_un rfl rfl trivial (oy rfl rfl) (fun _ => rn_not) (fun _ => rfl), xm rfl rfl rfl rfl rfl, ox_off (gn rfl rfl rfl) rfl (fun _ => rfl), ox_off (gn rfl rfl rfl) rfl (fun _ => rfl), ox_off (gn rfl rfl rfl) rfl (fun _ => rfl), ox_pick rfl rfl trivial (oy rfl rfl) rfl (fun _ => rfl), trivial⟩ fun a13 w13 g13 st13 => ?_
    obtain ⟨hn13, hd13, e13_12, e13_13, e13_14, e13_15, e13_16, e13_17, e13_18, e13_19, e13_7, e13_6, e13_4, e13_3, e13_2, -⟩ := st13
    replace HB3_2 := rw_kn g13 HB3_2
    replace HB4_3 := rw_kn g13 HB4_3
    replace HB6_4 := rw_kn g13 HB6_4
    replace HB7_5 := rw_kn g13 HB7_5
    replace hr := hr.kn g13
    replace HG := grown_trans HG g13
    have sv13 : Sv 54 [{ target := .fn (.func 78) #[.pointer (some ⟨B6_4, 0, none⟩), .pointer (some ⟨B7_5, 0, none⟩)], args := #[] }] [(7, .pointer (some ⟨B7_5, 0, none⟩)), (6, .pointer (some ⟨B6_4, 0, none⟩)), (4, .pointer (some ⟨B4_3, 0, none⟩)), (3, .pointer (some ⟨B3_2, 0, none⟩)), (2, .int .i64 a), (19, .bool true)] a13 := ⟨hn13, hd13, e13_7, e13_6, e13_4, e13_3, e13_2, e13_19, trivial⟩
    refine tl_nil ?_
    refine k12 _ _ ?_
    refine cx_ifT sv13 rfl rfl ?_
    refine wp_seq_k fun K14 k14 => ?_
    refine wp_region_lit ?_
    refine sx_head (sv13.st w13) 1 [(20, Sp.is (vval zero32 zero32 (.slice none 0 0)))] rfl (by kernel_rfl) (by kernel_rfl) (by kernel_rfl)
      ⟨ox_build (vs := []) rfl rfl trivial trivial (fun _ => bV0 _) (fun _ => rfl), trivial⟩ fun a15 w15 g15 st15 => ?_
    obtain ⟨hn15, hd15, e15_20, e15_7, e15_6, e15_4, e15_3, e15_2, e15_19, -⟩ := st15
    replace HB3_2 := rw_kn g15 HB3_2
    replace HB4_3 := rw_kn g15 HB4_3
    replace HB6_4 := rw_kn g15 HB6_4
    replace HB7_5 := rw_kn g15 HB7_5
    replace hr := hr.kn g15
    replace HG := grown_trans HG g15
    have sv15 : Sv 54 [{ target := .fn (.func 78) #[.pointer (some ⟨B6_4, 0, none⟩), .pointer (some ⟨B7_5, 0, none⟩)], args := #[] }] [(7, .pointer (some ⟨B7_5, 0, none⟩)), (6, .pointer (some ⟨B6_4, 0, none⟩)), (4, .pointer (some ⟨B4_3, 0, none⟩)), (3, .pointer (some ⟨B3_2, 0, none⟩)), (2, .int .i64 a), (19, .bool true), (20, vval zero32 zero32 (.slice none 0 0))] a15 := ⟨hn15, hd15, e15_7, e15_6, e15_4, e15_3, e15_2, e15_19, e15_20, trivial⟩
    refine tl_storeW sv15 rfl rfl rfl rfl rfl rfl rfl (tyVa zero32_dg zero32_dg (.slice none 0 0) rfl) HB6_4 (by first | rfl | simp [kcells, bv_length, zero32_len, zero32_dg.1, zero32_dg.1]) fun w16 g16 h16 => ?_
    replace HB3_2 := rw_st g16 HB3_2 (Ne.symm ne_B6_4_B3_2)
    replace HB4_3 := rw_st g16 HB4_3 (Ne.symm ne_B6_4_B4_3)
    replace HB7_5 := rw_st g16 HB7_5 ne_B7_5_B6_4
    replace hr := hr.offR g16 (fun k hk e => ap_hr_B6_4 k hk (Option.some.inj e).symm)
    replace HG := grown_newR HG g16 lo_B6_4
    replace HB6_4 := h16
    refine tl_storeW sv15 rfl rfl rfl rfl rfl rfl rfl (tyE 1) HB7_5 rfl fun w17 g17 h17 => ?_
    replace HB3_2 := rw_st g17 HB3_2 (Ne.symm ne_B7_5_B3_2)
    replace HB4_3 := rw_st g17 HB4_3 (Ne.symm ne_B7_5_B4_3)
    replace HB6_4 := rw_st g17 HB6_4 (Ne.symm ne_B7_5_B6_4)
    replace hr := hr.offR g17 (fun k hk e => ap_hr_B7_5 k hk (Option.some.inj e).symm)
    replace HG := grown_newR HG g17 lo_B7_5
    replace HB7_5 := h17
    have sv18 : Sv 54 [{ target := .fn (.func 78) #[.pointer (some ⟨B6_4, 0, none⟩), .pointer (some ⟨B7_5, 0, none⟩)], args := #[] }] [(7, .pointer (some ⟨B7_5, 0, none⟩)), (6, .pointer (some ⟨B6_4, 0, none⟩)), (4, .pointer (some ⟨B4_3, 0, none⟩)), (3, .pointer (some ⟨B3_2, 0, none⟩)), (2, .int .i64 a), (19, .bool true)] a15 := ⟨sv15.1, sv15.2.1, sv15.2.2.1, sv15.2.2.2.1, sv15.2.2.2.2.1, sv15.2.2.2.2.2.1, sv15.2.2.2.2.2.2.1, sv15.2.2.2.2.2.2.2.1, trivial⟩
    refine tl_nil ?_
    refine k14 _ _ ?_
    refine wp_ret ?_
    repeat refine then_ret ?_
    refine cx_retD (fn := Try.f42) sv18 (res_cell2 (p := 6) (q := 7) Try.results42 sv18 rfl rfl rfl rfl (tyVa zero32_dg zero32_dg (.slice none 0 0) rfl) (tyE 1) HB6_4 HB7_5) (inv_of Try.func78 (by kernel_rfl) rfl _ _) (recShred_walk _ _ _) ?_
    exact VRes.zero (shrO_bad (.inl ha)) HG
  · refine wp_region_lit ?_
    refine sx_head (sv10.st w5) 8 [(12, Sp.is (.int .i64 a)), (13, Sp.is (.bool true)), (14, Sp.is (.bool false)), (15, Sp.is (.bool false)), (16, Sp.is (vval sa po (.slice ao ks.length cap))), (17, Sp.is (.bool false)), (18, Sp.is (.bool true)), (19, Sp.is (.bool true))] rfl (by kernel_rfl) (by kernel_rfl) (by kernel_rfl)
      ⟨xm rfl rfl rfl rfl rfl, ox_call (Sp.is (.bool true)) [.int .i64 a] rfl rfl trivial ⟨(oy rfl rfl), trivial⟩ (is_on fun W g => isaddr_B ha W) (fun _ _ h => h) (enter_of Try.func53 (by kernel_rfl) rfl), ox_un rfl rfl trivial (oy rfl rfl) (fun _ => rn_not) (fun _ => rfl), xm rfl rfl rfl rfl rfl, ox_load rfl rfl (gy rfl rfl rfl) (oy rfl rfl) (fun _ g => loadsAt (tyVa hsa hpo (.slice ao ks.length cap) rfl) (rangeAt_row (row_of g HB3_2 (by simp)))) (fun _ => rfl), ox_call (Sp.is (.bool false)) [vval sa po (.slice ao ks.length cap)] rfl rfl (gy rfl rfl rfl) ⟨(oy rfl rfl), trivial⟩ (is_on fun W g => vvalid_B hsa hpo (hr.kn g) hv) (fun _ _ h => h) (enter_of Try.func45 (by kernel_rfl) rfl), ox_un rfl rfl (gy rfl rfl rfl) (oy rfl rfl) (fun _ => rn_not) (fun _ => rfl), ox_pick rfl rfl trivial (oy rfl rfl) (oy rfl rfl) (fun _ => rfl), trivial⟩ fun a19 w19 g19 st19 => ?_
    obtain ⟨hn19, hd19, e19_12, e19_13, e19_14, e19_15, e19_16, e19_17, e19_18, e19_19, e19_7, e19_6, e19_4, e19_3, e19_2, -⟩ := st19
    replace HB3_2 := rw_kn g19 HB3_2
    replace HB4_3 := rw_kn g19 HB4_3
    replace HB6_4 := rw_kn g19 HB6_4
    replace HB7_5 := rw_kn g19 HB7_5
    replace hr := hr.kn g19
    replace HG := grown_trans HG g19
    have sv19 : Sv 54 [{ target := .fn (.func 78) #[.pointer (some ⟨B6_4, 0, none⟩), .pointer (some ⟨B7_5, 0, none⟩)], args := #[] }] [(7, .pointer (some ⟨B7_5, 0, none⟩)), (6, .pointer (some ⟨B6_4, 0, none⟩)), (4, .pointer (some ⟨B4_3, 0, none⟩)), (3, .pointer (some ⟨B3_2, 0, none⟩)), (2, .int .i64 a), (19, .bool true)] a19 := ⟨hn19, hd19, e19_7, e19_6, e19_4, e19_3, e19_2, e19_19, trivial⟩
    refine tl_nil ?_
    refine k12 _ _ ?_
    refine cx_ifT sv19 rfl rfl ?_
    refine wp_seq_k fun K20 k20 => ?_
    refine wp_region_lit ?_
    refine sx_head (sv19.st w19) 1 [(20, Sp.is (vval zero32 zero32 (.slice none 0 0)))] rfl (by kernel_rfl) (by kernel_rfl) (by kernel_rfl)
      ⟨ox_build (vs := []) rfl rfl trivial trivial (fun _ => bV0 _) (fun _ => rfl), trivial⟩ fun a21 w21 g21 st21 => ?_
    obtain ⟨hn21, hd21, e21_20, e21_7, e21_6, e21_4, e21_3, e21_2, e21_19, -⟩ := st21
    replace HB3_2 := rw_kn g21 HB3_2
    replace HB4_3 := rw_kn g21 HB4_3
    replace HB6_4 := rw_kn g21 HB6_4
    replace HB7_5 := rw_kn g21 HB7_5
    replace hr := hr.kn g21
    replace HG := grown_trans HG g21
    have sv21 : Sv 54 [{ target := .fn (.func 78) #[.pointer (some ⟨B6_4, 0, none⟩), .pointer (some ⟨B7_5, 0, none⟩)], args := #[] }] [(7, .pointer (some ⟨B7_5, 0, none⟩)), (6, .pointer (some ⟨B6_4, 0, none⟩)), (4, .pointer (some ⟨B4_3, 0, none⟩)), (3, .pointer (some ⟨B3_2, 0, none⟩)), (2, .int .i64 a), (19, .bool true), (20, vval zero32 zero32 (.slice none 0 0))] a21 := ⟨hn21, hd21, e21_7, e21_6, e21_4, e21_3, e21_2, e21_19, e21_20, trivial⟩
    refine tl_storeW sv21 rfl rfl rfl rfl rfl rfl rfl (tyVa zero32_dg zero32_dg (.slice none 0 0) rfl) HB6_4 (by first | rfl | simp [kcells, bv_length, zero32_len, zero32_dg.1, zero32_dg.1]) fun w22 g22 h22 => ?_
    replace HB3_2 := rw_st g22 HB3_2 (Ne.symm ne_B6_4_B3_2)
    replace HB4_3 := rw_st g22 HB4_3 (Ne.symm ne_B6_4_B4_3)
    replace HB7_5 := rw_st g22 HB7_5 ne_B7_5_B6_4
    replace hr := hr.offR g22 (fun k hk e => ap_hr_B6_4 k hk (Option.some.inj e).symm)
    replace HG := grown_newR HG g22 lo_B6_4
    replace HB6_4 := h22
    refine tl_storeW sv21 rfl rfl rfl rfl rfl rfl rfl (tyE 1) HB7_5 rfl fun w23 g23 h23 => ?_
    replace HB3_2 := rw_st g23 HB3_2 (Ne.symm ne_B7_5_B3_2)
    replace HB4_3 := rw_st g23 HB4_3 (Ne.symm ne_B7_5_B4_3)
    replace HB6_4 := rw_st g23 HB6_4 (Ne.symm ne_B7_5_B6_4)
    replace hr := hr.offR g23 (fun k hk e => ap_hr_B7_5 k hk (Option.some.inj e).symm)
    replace HG := grown_newR HG g23 lo_B7_5
    replace HB7_5 := h23
    have sv24 : Sv 54 [{ target := .fn (.func 78) #[.pointer (some ⟨B6_4, 0, none⟩), .pointer (some ⟨B7_5, 0, none⟩)], args := #[] }] [(7, .pointer (some ⟨B7_5, 0, none⟩)), (6, .pointer (some ⟨B6_4, 0, none⟩)), (4, .pointer (some ⟨B4_3, 0, none⟩)), (3, .pointer (some ⟨B3_2, 0, none⟩)), (2, .int .i64 a), (19, .bool true)] a21 := ⟨sv21.1, sv21.2.1, sv21.2.2.1, sv21.2.2.2.1, sv21.2.2.2.2.1, sv21.2.2.2.2.2.1, sv21.2.2.2.2.2.2.1, sv21.2.2.2.2.2.2.2.1, trivial⟩
    refine tl_nil ?_
    refine k20 _ _ ?_
    refine wp_ret ?_
    repeat refine then_ret ?_
    refine cx_retD (fn := Try.f42) sv24 (res_cell2 (p := 6) (q := 7) Try.results42 sv24 rfl rfl rfl rfl (tyVa zero32_dg zero32_dg (.slice none 0 0) rfl) (tyE 1) HB6_4 HB7_5) (inv_of Try.func78 (by kernel_rfl) rfl _ _) (recShred_walk _ _ _) ?_
    exact VRes.zero (shrO_bad (.inr hv)) HG
  · obtain ⟨i, hi⟩ : ∃ i, pos (ks.map VK.p) o = i := ⟨_, rfl⟩
    have h64 : ks.length ≤ 64 := by have := (vldV_iff.1 hv).1; simpa using this
    refine wp_region_lit ?_
    refine sx_head (sv10.st w5) 8 [(12, Sp.is (.int .i64 a)), (13, Sp.is (.bool true)), (14, Sp.is (.bool false)), (15, Sp.is (.bool false)), (16, Sp.is (vval sa po (.slice ao ks.length cap))), (17, Sp.is (.bool true)), (18, Sp.is (.bool false)), (19, Sp.is (.bool false))] rfl (by kernel_rfl) (by kernel_rfl) (by kernel_rfl)
      ⟨xm rfl rfl rfl rfl rfl, ox_call (Sp.is (.bool true)) [.int .i64 a] rfl rfl trivial ⟨(oy rfl rfl), trivial⟩ (is_on fun W g => isaddr_B ha W) (fun _ _ h => h) (enter_of Try.func53 (by kernel_rfl) rfl), ox_un rfl rfl trivial (oy rfl rfl) (fun _ => rn_not) (fun _ => rfl), xm rfl rfl rfl rfl rfl, ox_load rfl rfl (gy rfl rfl rfl) (oy rfl rfl) (fun _ g => loadsAt (tyVa hsa hpo (.slice ao ks.length cap) rfl) (rangeAt_row (row_of g HB3_2 (by simp)))) (fun _ => rfl), ox_call (Sp.is (.bool true)) [vval sa po (.slice ao ks.length cap)] rfl rfl (gy rfl rfl rfl) ⟨(oy rfl rfl), trivial⟩ (is_on fun W g => vvalid_B hsa hpo (hr.kn g) hv) (fun _ _ h => h) (enter_of Try.func45 (by kernel_rfl) rfl), ox_un rfl rfl (gy rfl rfl rfl) (oy rfl rfl) (fun _ => rn_not) (fun _ => rfl), ox_pick rfl rfl trivial (oy rfl rfl) (oy rfl rfl) (fun _ => rfl), trivial⟩ fun a25 w25 g25 st25 => ?_
    obtain ⟨hn25, hd25, e25_12, e25_13, e25_14, e25_15, e25_16, e25_17, e25_18, e25_19, e25_7, e25_6, e25_4, e25_3, e25_2, -⟩ := st25
    replace HB3_2 := rw_kn g25 HB3_2
    replace HB4_3 := rw_kn g25 HB4_3
    replace HB6_4 := rw_kn g25 HB6_4
    replace HB7_5 := rw_kn g25 HB7_5
    replace hr := hr.kn g25
    replace HG := grown_trans HG g25
    have sv25 : Sv 54 [{ target := .fn (.func 78) #[.pointer (some ⟨B6_4, 0, none⟩), .pointer (some ⟨B7_5, 0, none⟩)], args := #[] }] [(7, .pointer (some ⟨B7_5, 0, none⟩)), (6, .pointer (some ⟨B6_4, 0, none⟩)), (4, .pointer (some ⟨B4_3, 0, none⟩)), (3, .pointer (some ⟨B3_2, 0, none⟩)), (2, .int .i64 a), (19, .bool false)] a25 := ⟨hn25, hd25, e25_7, e25_6, e25_4, e25_3, e25_2, e25_19, trivial⟩
    refine tl_nil ?_
    refine k12 _ _ ?_
    refine cx_ifF sv25 rfl rfl ?_
    refine wp_skip ?_
    refine k11 _ _ ?_
    refine wp_seq_k fun K26 k26 => ?_
    cases hf : fnd (ks.map VK.p) o
    · refine wp_region_lit ?_
      refine sx_head (sv25.st w25) 6 [(22, Sp.is (vval sa po (.slice ao ks.length cap))), (23, Sp.is (dval o)), (24, Sp.is (.tuple #[.int .i64 ((i : Int)), .bool false])), (21, Sp.is (.tuple #[.int .i64 ((i : Int)), .bool false])), (25, Sp.is (.int .i64 ((i : Int)))), (26, Sp.is (.bool false))] rfl (by kernel_rfl) (by kernel_rfl) (by kernel_rfl)
        ⟨xl rfl rfl rfl rfl rfl (tyVa hsa hpo (.slice ao ks.length cap) rfl) HB3_2 rfl, xl rfl rfl rfl rfl rfl (tyD o ho.1) HB4_3 rfl, ox_call (Sp.is (.tuple #[.int .i64 ((i : Int)), .bool false])) [vval sa po (.slice ao ks.length cap), dval o] rfl rfl trivial ⟨(oy rfl rfl), (oy rfl rfl), trivial⟩ (is_on fun W g => find_B hsa hpo ho (hr.kn g) hv hf hi) (fun _ _ h => h) (enter_of Try.func70 (by kernel_rfl) rfl), xm rfl rfl rfl rfl rfl, ox_extract rfl rfl rfl trivial (fun _ _ h => ⟨_, _, h, rfl, rfl⟩), ox_extract rfl rfl rfl trivial (fun _ _ h => ⟨_, _, h, rfl, rfl⟩), trivial⟩ fun a27 w27 g27 st27 => ?_
      obtain ⟨hn27, hd27, e27_22, e27_23, e27_24, e27_21, e27_25, e27_26, e27_7, e27_6, e27_4, e27_3, e27_2, e27_19, -⟩ := st27
      replace HB3_2 := rw_kn g27 HB3_2
      replace HB4_3 := rw_kn g27 HB4_3
      replace HB6_4 := rw_kn g27 HB6_4
      replace HB7_5 := rw_kn g27 HB7_5
      replace hr := hr.kn g27
      replace HG := grown_trans HG g27
      have sv27 : Sv 54 [{ target := .fn (.func 78) #[.pointer (some ⟨B6_4, 0, none⟩), .pointer (some ⟨B7_5, 0, none⟩)], args := #[] }] [(7, .pointer (some ⟨B7_5, 0, none⟩)), (6, .pointer (some ⟨B6_4, 0, none⟩)), (4, .pointer (some ⟨B4_3, 0, none⟩)), (3, .pointer (some ⟨B3_2, 0, none⟩)), (2, .int .i64 a), (19, .bool false), (25, .int .i64 ((i : Int))), (26, .bool false)] a27 := ⟨hn27, hd27, e27_7, e27_6, e27_4, e27_3, e27_2, e27_19, e27_25, e27_26, trivial⟩
      refine tl_assign sv27 rfl (.inl rfl) rfl rfl rfl rfl fun a28 sv28 => ?_
      replace sv28 : Sv 54 [{ target := .fn (.func 78) #[.pointer (some ⟨B6_4, 0, none⟩), .pointer (some ⟨B7_5, 0, none⟩)], args := #[] }] [(8, .int .i64 ((i : Int))), (7, .pointer (some ⟨B7_5, 0, none⟩)), (6, .pointer (some ⟨B6_4, 0, none⟩)), (4, .pointer (some ⟨B4_3, 0, none⟩)), (3, .pointer (some ⟨B3_2, 0, none⟩)), (2, .int .i64 a), (19, .bool false), (25, .int .i64 ((i : Int))), (26, .bool false)] a28 := sv28
      refine tl_assign sv28 rfl (.inl rfl) rfl rfl rfl rfl fun a29 sv29 => ?_
      replace sv29 : Sv 54 [{ target := .fn (.func 78) #[.pointer (some ⟨B6_4, 0, none⟩), .pointer (some ⟨B7_5, 0, none⟩)], args := #[] }] [(9, .bool false), (8, .int .i64 ((i : Int))), (7, .pointer (some ⟨B7_5, 0, none⟩)), (6, .pointer (some ⟨B6_4, 0, none⟩)), (4, .pointer (some ⟨B4_3, 0, none⟩)), (3, .pointer (some ⟨B3_2, 0, none⟩)), (2, .int .i64 a), (19, .bool false), (25, .int .i64 ((i : Int))), (26, .bool false)] a29 := sv29
      have sv30 : Sv 54 [{ target := .fn (.func 78) #[.pointer (some ⟨B6_4, 0, none⟩), .pointer (some ⟨B7_5, 0, none⟩)], args := #[] }] [(9, .bool false), (8, .int .i64 ((i : Int))), (7, .pointer (some ⟨B7_5, 0, none⟩)), (6, .pointer (some ⟨B6_4, 0, none⟩)), (3, .pointer (some ⟨B3_2, 0, none⟩)), (2, .int .i64 a), (19, .bool false)] a29 := ⟨sv29.1, sv29.2.1, sv29.2.2.1, sv29.2.2.2.1, sv29.2.2.2.2.1, sv29.2.2.2.2.2.1, sv29.2.2.2.2.2.2.2.1, sv29.2.2.2.2.2.2.2.2.1, sv29.2.2.2.2.2.2.2.2.2.1, trivial⟩
      refine tl_nil ?_
      refine k26 _ _ ?_
      refine wp_seq_k fun K31 k31 => ?_
      refine wp_seq_k fun K32 k32 => ?_
      refine wp_region_lit ?_
      refine sx_head (sv30.st w27) 2 [(27, Sp.is (.bool false)), (28, Sp.is (.bool true))] rfl (by kernel_rfl) (by kernel_rfl) (by kernel_rfl)
        ⟨xm rfl rfl rfl rfl rfl, ox_un rfl rfl trivial (oy rfl rfl) (fun _ => rn_not) (fun _ => rfl), trivial⟩ fun a33 w33 g33 st33 => ?_
      obtain ⟨hn33, hd33, e33_27, e33_28, e33_9, e33_8, e33_7, e33_6, e33_3, e33_2, e33_19, -⟩ := st33
      replace HB3_2 := rw_kn g33 HB3_2
      replace HB4_3 := rw_kn g33 HB4_3
      replace HB6_4 := rw_kn g33 HB6_4
      replace HB7_5 := rw_kn g33 HB7_5
      replace hr := hr.kn g33
      replace HG := grown_trans HG g33
      have sv33 : Sv 54 [{ target := .fn (.func 78) #[.pointer (some ⟨B6_4, 0, none⟩), .pointer (some ⟨B7_5, 0, none⟩)], args := #[] }] [(9, .bool false), (8, .int .i64 ((i : Int))), (7, .pointer (some ⟨B7_5, 0, none⟩)), (6, .pointer (some ⟨B6_4, 0, none⟩)), (3, .pointer (some ⟨B3_2, 0, none⟩)), (2, .int .i64 a), (19, .bool false), (28, .bool true)] a33 := ⟨hn33, hd33, e33_9, e33_8, e33_7, e33_6, e33_3, e33_2, e33_19, e33_28, trivial⟩
      refine tl_nil ?_
      refine k32 _ _ ?_
      refine cx_ifT sv33 rfl rfl ?_
      refine wp_seq_k fun K34 k34 => ?_
      refine wp_region_lit ?_
      refine sx_head (sv33.st w33) 1 [(29, Sp.is (vval zero32 zero32 (.slice none 0 0)))] rfl (by kernel_rfl) (by kernel_rfl) (by kernel_rfl)
        ⟨ox_build (vs := []) rfl rfl trivial trivial (fun _ => bV0 _) (fun _ => rfl), trivial⟩ fun a35 w35 g35 st35 => ?_
      obtain ⟨hn35, hd35, e35_29, e35_9, e35_8, e35_7, e35_6, e35_3, e35_2, e35_19, e35_28, -⟩ := st35
      replace HB3_2 := rw_kn g35 HB3_2
      replace HB4_3 := rw_kn g35 HB4_3
      replace HB6_4 := rw_kn g35 HB6_4
      replace HB7_5 := rw_kn g35 HB7_5
      replace hr := hr.kn g35
      replace HG := grown_trans HG g35
      have sv35 : Sv 54 [{ target := .fn (.func 78) #[.pointer (some ⟨B6_4, 0, none⟩), .pointer (some ⟨B7_5, 0, none⟩)], args := #[] }] [(9, .bool false), (8, .int .i64 ((i : Int))), (7, .pointer (some ⟨B7_5, 0, none⟩)), (6, .pointer (some ⟨B6_4, 0, none⟩)), (3, .pointer (some ⟨B3_2, 0, none⟩)), (2, .int .i64 a), (19, .bool false), (28, .bool true), (29, vval zero32 zero32 (.slice none 0 0))] a35 := ⟨hn35, hd35, e35_9, e35_8, e35_7, e35_6, e35_3, e35_2, e35_19, e35_28, e35_29, trivial⟩
      refine tl_storeW sv35 rfl rfl rfl rfl rfl rfl rfl (tyVa zero32_dg zero32_dg (.slice none 0 0) rfl) HB6_4 (by first | rfl | simp [kcells, bv_length, zero32_len, zero32_dg.1, zero32_dg.1]) fun w36 g36 h36 => ?_
      replace HB3_2 := rw_st g36 HB3_2 (Ne.symm ne_B6_4_B3_2)
      replace HB4_3 := rw_st g36 HB4_3 (Ne.symm ne_B6_4_B4_3)
      replace HB7_5 := rw_st g36 HB7_5 ne_B7_5_B6_4
      replace hr := hr.offR g36 (fun k hk e => ap_hr_B6_4 k hk (Option.some.inj e).symm)
      replace HG := grown_newR HG g36 lo_B6_4
      replace HB6_4 := h36
      refine tl_storeW sv35 rfl rfl rfl rfl rfl rfl rfl (tyE 10) HB7_5 rfl fun w37 g37 h37 => ?_
      replace HB3_2 := rw_st g37 HB3_2 (Ne.symm ne_B7_5_B3_2)
      replace HB4_3 := rw_st g37 HB4_3 (Ne.symm ne_B7_5_B4_3)
      replace HB6_4 := rw_st g37 HB6_4 (Ne.symm ne_B7_5_B6_4)
      replace hr := hr.offR g37 (fun k hk e => ap_hr_B7_5 k hk (Option.some.inj e).symm)
      replace HG := grown_newR HG g37 lo_B7_5
      replace HB7_5 := h37
      have sv38 : Sv 54 [{ target := .fn (.func 78) #[.pointer (some ⟨B6_4, 0, none⟩), .pointer (some ⟨B7_5, 0, none⟩)], args := #[] }] [(9, .bool false), (8, .int .i64 ((i : Int))), (7, .pointer (some ⟨B7_5, 0, none⟩)), (6, .pointer (some ⟨B6_4, 0, none⟩)), (3, .pointer (some ⟨B3_2, 0, none⟩)), (2, .int .i64 a), (19, .bool false), (28, .bool true)] a35 := ⟨sv35.1, sv35.2.1, sv35.2.2.1, sv35.2.2.2.1, sv35.2.2.2.2.1, sv35.2.2.2.2.2.1, sv35.2.2.2.2.2.2.1, sv35.2.2.2.2.2.2.2.1, sv35.2.2.2.2.2.2.2.2.1, sv35.2.2.2.2.2.2.2.2.2.1, trivial⟩
      refine tl_nil ?_
      refine k34 _ _ ?_
      refine wp_ret ?_
      repeat refine then_ret ?_
      refine cx_retD (fn := Try.f42) sv38 (res_cell2 (p := 6) (q := 7) Try.results42 sv38 rfl rfl rfl rfl (tyVa zero32_dg zero32_dg (.slice none 0 0) rfl) (tyE 10) HB6_4 HB7_5) (inv_of Try.func78 (by kernel_rfl) rfl _ _) (recShred_walk _ _ _) ?_
      exact VRes.zero (shrO_none ha hv hf) HG
    · have hil : i < ks.length := by have := (fnd_at hf).1; rw [hi] at this; simpa using this
      obtain ⟨x, hx_x⟩ : ∃ x, ks[i]'hil = x := ⟨_, rfl⟩
      have htr : tr (ks.map VK.p) i = x.l := by rw [tr_map hil, hx_x]
      obtain ⟨q, hq⟩ : ∃ q, punOf x.l a = q := ⟨_, rfl⟩
      refine wp_region_lit ?_
      refine sx_head (sv25.st w25) 6 [(22, Sp.is (vval sa po (.slice ao ks.length cap))), (23, Sp.is (dval o)), (24, Sp.is (.tuple #[.int .i64 ((i : Int)), .bool true])), (21, Sp.is (.tuple #[.int .i64 ((i : Int)), .bool true])), (25, Sp.is (.int .i64 ((i : Int)))), (26, Sp.is (.bool true))] rfl (by kernel_rfl) (by kernel_rfl) (by kernel_rfl)
        ⟨xl rfl rfl rfl rfl rfl (tyVa hsa hpo (.slice ao ks.length cap) rfl) HB3_2 rfl, xl rfl rfl rfl rfl rfl (tyD o ho.1) HB4_3 rfl, ox_call (Sp.is (.tuple #[.int .i64 ((i : Int)), .bool true])) [vval sa po (.slice ao ks.length cap), dval o] rfl rfl trivial ⟨(oy rfl rfl), (oy rfl rfl), trivial⟩ (is_on fun W g => find_B hsa hpo ho (hr.kn g) hv hf hi) (fun _ _ h => h) (enter_of Try.func70 (by kernel_rfl) rfl), xm rfl rfl rfl rfl rfl, ox_extract rfl rfl rfl trivial (fun _ _ h => ⟨_, _, h, rfl, rfl⟩), ox_extract rfl rfl rfl trivial (fun _ _ h => ⟨_, _, h, rfl, rfl⟩), trivial⟩ fun a39 w39 g39 st39 => ?_
      obtain ⟨hn39, hd39, e39_22, e39_23, e39_24, e39_21, e39_25, e39_26, e39_7, e39_6, e39_4, e39_3, e39_2, e39_19, -⟩ := st39
      replace HB3_2 := rw_kn g39 HB3_2
      replace HB4_3 := rw_kn g39 HB4_3
      replace HB6_4 := rw_kn g39 HB6_4
      replace HB7_5 := rw_kn g39 HB7_5
      replace hr := hr.kn g39
      replace HG := grown_trans HG g39
      have sv39 : Sv 54 [{ target := .fn (.func 78) #[.pointer (some ⟨B6_4, 0, none⟩), .pointer (some ⟨B7_5, 0, none⟩)], args := #[] }] [(7, .pointer (some ⟨B7_5, 0, none⟩)), (6, .pointer (some ⟨B6_4, 0, none⟩)), (4, .pointer (some ⟨B4_3, 0, none⟩)), (3, .pointer (some ⟨B3_2, 0, none⟩)), (2, .int .i64 a), (19, .bool false), (25, .int .i64 ((i : Int))), (26, .bool true)] a39 := ⟨hn39, hd39, e39_7, e39_6, e39_4, e39_3, e39_2, e39_19, e39_25, e39_26, trivial⟩
      refine tl_assign sv39 rfl (.inl rfl) rfl rfl rfl rfl fun a40 sv40 => ?_
      replace sv40 : Sv 54 [{ target := .fn (.func 78) #[.pointer (some ⟨B6_4, 0, none⟩), .pointer (some ⟨B7_5, 0, none⟩)], args := #[] }] [(8, .int .i64 ((i : Int))), (7, .pointer (some ⟨B7_5, 0, none⟩)), (6, .pointer (some ⟨B6_4, 0, none⟩)), (4, .pointer (some ⟨B4_3, 0, none⟩)), (3, .pointer (some ⟨B3_2, 0, none⟩)), (2, .int .i64 a), (19, .bool false), (25, .int .i64 ((i : Int))), (26, .bool true)] a40 := sv40
      refine tl_assign sv40 rfl (.inl rfl) rfl rfl rfl rfl fun a41 sv41 => ?_
      replace sv41 : Sv 54 [{ target := .fn (.func 78) #[.pointer (some ⟨B6_4, 0, none⟩), .pointer (some ⟨B7_5, 0, none⟩)], args := #[] }] [(9, .bool true), (8, .int .i64 ((i : Int))), (7, .pointer (some ⟨B7_5, 0, none⟩)), (6, .pointer (some ⟨B6_4, 0, none⟩)), (4, .pointer (some ⟨B4_3, 0, none⟩)), (3, .pointer (some ⟨B3_2, 0, none⟩)), (2, .int .i64 a), (19, .bool false), (25, .int .i64 ((i : Int))), (26, .bool true)] a41 := sv41
      have sv42 : Sv 54 [{ target := .fn (.func 78) #[.pointer (some ⟨B6_4, 0, none⟩), .pointer (some ⟨B7_5, 0, none⟩)], args := #[] }] [(9, .bool true), (8, .int .i64 ((i : Int))), (7, .pointer (some ⟨B7_5, 0, none⟩)), (6, .pointer (some ⟨B6_4, 0, none⟩)), (3, .pointer (some ⟨B3_2, 0, none⟩)), (2, .int .i64 a), (19, .bool false)] a41 := ⟨sv41.1, sv41.2.1, sv41.2.2.1, sv41.2.2.2.1, sv41.2.2.2.2.1, sv41.2.2.2.2.2.1, sv41.2.2.2.2.2.2.2.1, sv41.2.2.2.2.2.2.2.2.1, sv41.2.2.2.2.2.2.2.2.2.1, trivial⟩
      refine tl_nil ?_
      refine k26 _ _ ?_
      refine wp_seq_k fun K43 k43 => ?_
      refine wp_seq_k fun K44 k44 => ?_
      refine wp_region_lit ?_
      refine sx_head (sv42.st w39) 2 [(27, Sp.is (.bool true)), (28, Sp.is (.bool false))] rfl (by kernel_rfl) (by kernel_rfl) (by kernel_rfl)
        ⟨xm rfl rfl rfl rfl rfl, ox_un rfl rfl trivial (oy rfl rfl) (fun _ => rn_not) (fun _ => rfl), trivial⟩ fun a45 w45 g45 st45 => ?_
      obtain ⟨hn45, hd45, e45_27, e45_28, e45_9, e45_8, e45_7, e45_6, e45_3, e45_2, e45_19, -⟩ := st45
      replace HB3_2 := rw_kn g45 HB3_2
      replace HB4_3 := rw_kn g45 HB4_3
      replace HB6_4 := rw_kn g45 HB6_4
      replace HB7_5 := rw_kn g45 HB7_5
      replace hr := hr.kn g45
      replace HG := grown_trans HG g45
      have sv45 : Sv 54 [{ target := .fn (.func 78) #[.pointer (some ⟨B6_4, 0, none⟩), .pointer (some ⟨B7_5, 0, none⟩)], args := #[] }] [(9, .bool true), (8, .int .i64 ((i : Int))), (7, .pointer (some ⟨B7_5, 0, none⟩)), (6, .pointer (some ⟨B6_4, 0, none⟩)), (3, .pointer (some ⟨B3_2, 0, none⟩)), (2, .int .i64 a), (19, .bool false), (28, .bool false)] a45 := ⟨hn45, hd45, e45_9, e45_8, e45_7, e45_6, e45_3, e45_2, e45_19, e45_28, trivial⟩
      refine tl_nil ?_
      refine k44 _ _ ?_
      refine cx_ifF sv45 rfl rfl ?_
      refine wp_skip ?_
      refine k43 _ _ ?_
      refine wp_seq_k fun K46 k46 => ?_
      refine wp_region_lit ?_
      refine sx_head (sv45.st w45) 11 [(31, Sp.is (.pointer (some ⟨B3_2, 64, none⟩))), (32, Sp.is (.slice ao ks.length cap)), (33, Sp.is (.int .i64 ((i : Int)))), (34, Sp.is (.pointer (some ⟨(bO ao), oO ao + i * 33, none⟩))), (35, Sp.is (.pointer (some ⟨(bO ao), oO ao + i * 33 + 32, none⟩))), (36, Sp.is (.agg #[VK.s x])), (37, Sp.is (.int .i64 a)), (38, Sp.puncF w45.heap.size q), (30, Sp.puncF w45.heap.size q), (39, Sp.ct w45.heap.size q.1), (40, Sp.is (.int .i64 q.2))] rfl (by kernel_rfl) (by kernel_rfl) (by kernel_rfl)
        ⟨xf rfl rfl rfl rfl rfl (fun _ => by kernel_rfl) rfl, xp (i := 2) rfl rfl rfl rfl rfl (tyKs (.slice ao ks.length cap) rfl) HB3_2 rfl (by simp [bv_length, zero32_len, hsa.1, hpo.1]) rfl, xm rfl rfl rfl rfl rfl, ox_index rfl rfl trivial (oy rfl rfl) (oy rfl rfl) (fun w => ix_sl Try.underlying56 (by kernel_rfl) (hr.1.1) (by omega) (rfl) w) (fun _ => rfl), xf rfl rfl rfl rfl rfl (fun _ => by kernel_rfl) rfl, ox_load rfl rfl trivial (oy rfl rfl) (fun _ g => loadsAt (tyT (VK.s x) rfl) (RdK.treeX (hr.kn g) rfl hil hx_x)) (fun _ => rfl), xm rfl rfl rfl rfl rfl, ox_call (Sp.puncF w45.heap.size q) [.agg #[VK.s x], .int .i64 a] rfl rfl trivial ⟨(oy rfl rfl), (oy rfl rfl), trivial⟩ (punct_onF hq (hr.kt hil hx_x)) (fun _ _ h => h) (enter_of Try.func24 (by kernel_rfl) rfl), xm rfl rfl rfl rfl rfl, ox_extract rfl rfl rfl trivial (fun w u h => puncF_tree w u h), ox_extract rfl rfl rfl trivial (fun w u h => puncF_err w u h), trivial⟩ fun a47 w47 g47 st47 => ?_
      obtain ⟨hn47, hd47, e47_31, e47_32, e47_33, e47_34, e47_35, e47_36, e47_37, e47_38, e47_30, e47_39, e47_40, e47_9, e47_8, e47_7, e47_6, e47_3, e47_2, e47_19, e47_28, -⟩ := st47
      obtain ⟨ao48, cap48, e47_39q, rt, frT⟩ := e47_39
      have ap_rt_B3_2 := fr_ap frT HB3_2
      have ap_rt_B4_3 := fr_ap frT HB4_3
      have ap_rt_B6_4 := fr_ap frT HB6_4
      have ap_rt_B7_5 := fr_ap frT HB7_5
      have lo_rt : ∀ k, fpS (.slice ao48 q.1.length cap48) k → w.heap.size ≤ k := fun k hk => Nat.le_trans HG.size (frT k hk)
      replace HB3_2 := rw_kn g47 HB3_2
      replace HB4_3 := rw_kn g47 HB4_3
      replace HB6_4 := rw_kn g47 HB6_4
      replace HB7_5 := rw_kn g47 HB7_5
      replace hr := hr.kn g47
      replace HG := grown_trans HG g47
      have sv47 : Sv 54 [{ target := .fn (.func 78) #[.pointer (some ⟨B6_4, 0, none⟩), .pointer (some ⟨B7_5, 0, none⟩)], args := #[] }] [(9, .bool true), (8, .int .i64 ((i : Int))), (7, .pointer (some ⟨B7_5, 0, none⟩)), (6, .pointer (some ⟨B6_4, 0, none⟩)), (3, .pointer (some ⟨B3_2, 0, none⟩)), (2, .int .i64 a), (19, .bool false), (28, .bool false), (39, .agg #[.slice ao48 q.1.length cap48]), (40, .int .i64 q.2)] a47 := ⟨hn47, hd47, e47_9, e47_8, e47_7, e47_6, e47_3, e47_2, e47_19, e47_28, e47_39q, e47_40, trivial⟩
      refine tl_alloc (T := 34) (Z := [.slice none 0 0]) sv47 rfl rfl rfl (fun a w => by kernel_rfl) fun a49 w49 B10_49 eq_B10_49 g49 z49 HB10_49 sv49 => ?_
      have ne_B10_49_B3_2 := nb_ne HB3_2 eq_B10_49
      have ne_B10_49_B4_3 := nb_ne HB4_3 eq_B10_49
      have ne_B10_49_B6_4 := nb_ne HB6_4 eq_B10_49
      have ne_B10_49_B7_5 := nb_ne HB7_5 eq_B10_49
      have lo_B10_49 := nb_lo HG eq_B10_49
      have ap_hr_B10_49 := nb_ap (hr.lt) eq_B10_49
      have ap_rt_B10_49 := nb_ap (rt.lt) eq_B10_49
      replace HB3_2 := rw_kn g49 HB3_2
      replace HB4_3 := rw_kn g49 HB4_3
      replace HB6_4 := rw_kn g49 HB6_4
      replace HB7_5 := rw_kn g49 HB7_5
      replace hr := hr.kn g49
      replace rt := rt.kn g49
      replace HG := grown_trans HG g49
      replace sv49 : Sv 54 [{ target := .fn (.func 78) #[.pointer (some ⟨B6_4, 0, none⟩), .pointer (some ⟨B7_5, 0, none⟩)], args := #[] }] [(10, .pointer (some ⟨B10_49, 0, none⟩)), (9, .bool true), (8, .int .i64 ((i : Int))), (7, .pointer (some ⟨B7_5, 0, none⟩)), (6, .pointer (some ⟨B6_4, 0, none⟩)), (3, .pointer (some ⟨B3_2, 0, none⟩)), (2, .int .i64 a), (19, .bool false), (28, .bool false), (39, .agg #[.slice ao48 q.1.length cap48]), (40, .int .i64 q.2)] a49 := sv49
      refine tl_storeW sv49 rfl rfl rfl rfl rfl rfl rfl (tyT (.slice ao48 q.1.length cap48) rfl) HB10_49 rfl fun w50 g50 h50 => ?_
      replace HB3_2 := rw_st g50 HB3_2 (Ne.symm ne_B10_49_B3_2)
      replace HB4_3 := rw_st g50 HB4_3 (Ne.symm ne_B10_49_B4_3)
      replace HB6_4 := rw_st g50 HB6_4 (Ne.symm ne_B10_49_B6_4)
      replace HB7_5 := rw_st g50 HB7_5 (Ne.symm ne_B10_49_B7_5)
      replace hr := hr.offR g50 (fun k hk e => ap_hr_B10_49 k hk (Option.some.inj e).symm)
      replace rt := rt.offR g50 (fun k hk e => ap_rt_B10_49 k hk (Option.some.inj e).symm)
      replace HG := grown_newR HG g50 lo_B10_49
      replace HB10_49 := h50
      refine tl_storeW sv49 rfl rfl rfl rfl rfl rfl rfl (tyE q.2) HB7_5 rfl fun w51 g51 h51 => ?_
      replace HB3_2 := rw_st g51 HB3_2 (Ne.symm ne_B7_5_B3_2)
      replace HB4_3 := rw_st g51 HB4_3 (Ne.symm ne_B7_5_B4_3)
      replace HB6_4 := rw_st g51 HB6_4 (Ne.symm ne_B7_5_B6_4)
      replace HB10_49 := rw_st g51 HB10_49 ne_B10_49_B7_5
      replace hr := hr.offR g51 (fun k hk e => ap_hr_B7_5 k hk (Option.some.inj e).symm)
      replace rt := rt.offR g51 (fun k hk e => ap_rt_B7_5 k hk (Option.some.inj e).symm)
      replace HG := grown_newR HG g51 lo_B7_5
      replace HB7_5 := h51
      have sv52 : Sv 54 [{ target := .fn (.func 78) #[.pointer (some ⟨B6_4, 0, none⟩), .pointer (some ⟨B7_5, 0, none⟩)], args := #[] }] [(10, .pointer (some ⟨B10_49, 0, none⟩)), (9, .bool true), (8, .int .i64 ((i : Int))), (7, .pointer (some ⟨B7_5, 0, none⟩)), (6, .pointer (some ⟨B6_4, 0, none⟩)), (3, .pointer (some ⟨B3_2, 0, none⟩)), (2, .int .i64 a), (19, .bool false), (28, .bool false)] a49 := ⟨sv49.1, sv49.2.1, sv49.2.2.1, sv49.2.2.2.1, sv49.2.2.2.2.1, sv49.2.2.2.2.2.1, sv49.2.2.2.2.2.2.1, sv49.2.2.2.2.2.2.2.1, sv49.2.2.2.2.2.2.2.2.1, sv49.2.2.2.2.2.2.2.2.2.1, sv49.2.2.2.2.2.2.2.2.2.2.1, trivial⟩
      refine tl_nil ?_
      refine k46 _ _ ?_
      refine wp_seq_k fun K53 k53 => ?_
      refine wp_seq_k fun K54 k54 => ?_
      by_cases hq0 : q.2 = 0
      · refine wp_region_lit ?_
        refine sx_head (sv52.st w51) 2 [(41, Sp.is (.int .i64 q.2)), (42, Sp.is (.bool false))] rfl (by kernel_rfl) (by kernel_rfl) (by kernel_rfl)
          ⟨xl rfl rfl rfl rfl rfl (tyE q.2) HB7_5 rfl, ox_bin rfl rfl trivial (oy rfl rfl) rfl (fun _ => rn_neq (by rw [hq0]; rfl)) (fun _ => rfl), trivial⟩ fun a55 w55 g55 st55 => ?_
        obtain ⟨hn55, hd55, e55_41, e55_42, e55_10, e55_9, e55_8, e55_7, e55_6, e55_3, e55_2, e55_19, e55_28, -⟩ := st55
        replace HB3_2 := rw_kn g55 HB3_2
        replace HB4_3 := rw_kn g55 HB4_3
        replace HB6_4 := rw_kn g55 HB6_4
        replace HB7_5 := rw_kn g55 HB7_5
        replace HB10_49 := rw_kn g55 HB10_49
        replace hr := hr.kn g55
        replace rt := rt.kn g55
        replace HG := grown_trans HG g55
        have sv55 : Sv 54 [{ target := .fn (.func 78) #[.pointer (some ⟨B6_4, 0, none⟩), .pointer (some ⟨B7_5, 0, none⟩)], args := #[] }] [(10, .pointer (some ⟨B10_49, 0, none⟩)), (9, .bool true), (8, .int .i64 ((i : Int))), (7, .pointer (some ⟨B7_5, 0, none⟩)), (6, .pointer (some ⟨B6_4, 0, none⟩)), (3, .pointer (some ⟨B3_2, 0, none⟩)), (2, .int .i64 a), (19, .bool false), (28, .bool false), (42, .bool false)] a55 := ⟨hn55, hd55, e55_10, e55_9, e55_8, e55_7, e55_6, e55_3, e55_2, e55_19, e55_28, e55_42, trivial⟩
        refine tl_nil ?_
        refine k54 _ _ ?_
        refine cx_ifF sv55 rfl rfl ?_
        refine wp_skip ?_
        refine k53 _ _ ?_
        refine wp_seq_k fun K56 k56 => ?_
        refine wp_region_lit ?_
        refine sx_head (sv55.st w55) 2 [(45, Sp.is (vval sa po (.slice ao ks.length cap))), (46, Sp.cln w55.heap.size sa po ks.length (ks.map VK.p))] rfl (by kernel_rfl) (by kernel_rfl) (by kernel_rfl)
          ⟨xl rfl rfl rfl rfl rfl (tyVa hsa hpo (.slice ao ks.length cap) rfl) HB3_2 rfl, ox_call (Sp.cln w55.heap.size sa po ks.length (ks.map VK.p)) [vval sa po (.slice ao ks.length cap)] rfl rfl trivial ⟨(oy rfl rfl), trivial⟩ (cloned_on hsa hpo hr h64) (fun _ _ h => h) (enter_of Try.func69 (by kernel_rfl) rfl), trivial⟩ fun a57 w57 g57 st57 => ?_
        obtain ⟨hn57, hd57, e57_45, e57_46, e57_10, e57_9, e57_8, e57_7, e57_6, e57_3, e57_2, e57_19, e57_28, e57_42, -⟩ := st57
        obtain ⟨A, ms, e57_46q, hmp, ow, kr, frA, frK⟩ := e57_46
        have fr_ow : ∀ k, fpS (.slice ((some ⟨A, 0, none⟩)) ks.length ks.length) k → w55.heap.size ≤ k := fun k hk => (Option.some.inj hk) ▸ frA
        have fr_kr : ∀ k, fpKs ms k → w55.heap.size ≤ k := fun k hk => (frK k hk).1
        have ap_kr_ow : ∀ k, fpKs ms k → ¬ fpS (.slice ((some ⟨A, 0, none⟩)) ks.length ks.length) k := fun k hk e => (frK k hk).2 (Option.some.inj e).symm
        have ap_ow_B3_2 := fr_ap fr_ow HB3_2
        have ap_ow_B4_3 := fr_ap fr_ow HB4_3
        have ap_ow_B6_4 := fr_ap fr_ow HB6_4
        have ap_ow_B7_5 := fr_ap fr_ow HB7_5
        have ap_ow_B10_49 := fr_ap fr_ow HB10_49
        have ap_hr_ow : ∀ k, fpK (.slice ao ks.length cap) ks k → ¬ fpS (.slice ((some ⟨A, 0, none⟩)) ks.length ks.length) k := fun k hzr hk => absurd (hr.lt k hzr) (Nat.not_lt.2 (fr_ow k hk))
        have ap_rt_ow : ∀ k, fpS (.slice ao48 q.1.length cap48) k → ¬ fpS (.slice ((some ⟨A, 0, none⟩)) ks.length ks.length) k := fun k hzr hk => absurd (rt.lt k hzr) (Nat.not_lt.2 (fr_ow k hk))
        have lo_ow : ∀ k, fpS (.slice ((some ⟨A, 0, none⟩)) ks.length ks.length) k → w.heap.size ≤ k := fun k hk => Nat.le_trans HG.size (fr_ow k hk)
        have ap_kr_B3_2 := fr_ap fr_kr HB3_2
        have ap_kr_B4_3 := fr_ap fr_kr HB4_3
        have ap_kr_B6_4 := fr_ap fr_kr HB6_4
        have ap_kr_B7_5 := fr_ap fr_kr HB7_5
        have ap_kr_B10_49 := fr_ap fr_kr HB10_49
        have lo_kr : ∀ k, fpKs ms k → w.heap.size ≤ k := fun k hk => Nat.le_trans HG.size (fr_kr k hk)
        replace HB3_2 := rw_kn g57 HB3_2
        replace HB4_3 := rw_kn g57 HB4_3
        replace HB6_4 := rw_kn g57 HB6_4
        replace HB7_5 := rw_kn g57 HB7_5
        replace HB10_49 := rw_kn g57 HB10_49
        replace hr := hr.kn g57
        replace rt := rt.kn g57
        replace HG := grown_trans HG g57
        have sv57 : Sv 54 [{ target := .fn (.func 78) #[.pointer (some ⟨B6_4, 0, none⟩), .pointer (some ⟨B7_5, 0, none⟩)], args := #[] }] [(10, .pointer (some ⟨B10_49, 0, none⟩)), (9, .bool true), (8, .int .i64 ((i : Int))), (7, .pointer (some ⟨B7_5, 0, none⟩)), (6, .pointer (some ⟨B6_4, 0, none⟩)), (3, .pointer (some ⟨B3_2, 0, none⟩)), (2, .int .i64 a), (19, .bool false), (28, .bool false), (42, .bool false), (46, vval sa po (.slice ((some ⟨A, 0, none⟩)) ks.length ks.length))] a57 := ⟨hn57, hd57, e57_10, e57_9, e57_8, e57_7, e57_6, e57_3, e57_2, e57_19, e57_28, e57_42, e57_46q, trivial⟩
        refine tl_storeW sv57 rfl rfl rfl rfl rfl rfl rfl (tyVa hsa hpo (.slice ((some ⟨A, 0, none⟩)) ks.length ks.length) rfl) HB3_2 (by first | rfl | simp [kcells, bv_length, zero32_len, hsa.1, hpo.1, hsa.1, hpo.1]) fun w58 g58 h58 => ?_
        replace HB4_3 := rw_st g58 HB4_3 ne_B4_3_B3_2
        replace HB6_4 := rw_st g58 HB6_4 ne_B6_4_B3_2
        replace HB7_5 := rw_st g58 HB7_5 ne_B7_5_B3_2
        replace HB10_49 := rw_st g58 HB10_49 ne_B10_49_B3_2
        replace hr := hr.offR g58 (fun k hk e => ap_hr_B3_2 k hk (Option.some.inj e).symm)
        replace rt := rt.offR g58 (fun k hk e => ap_rt_B3_2 k hk (Option.some.inj e).symm)
        replace ow := ow.offR g58 (fun k hk e => ap_ow_B3_2 k hk (Option.some.inj e).symm)
        replace kr := kr.offR g58 (fun k hk e => ap_kr_B3_2 k hk (Option.some.inj e).symm)
        replace HG := grown_newR HG g58 lo_B3_2
        replace HB3_2 := h58
        have sv59 : Sv 54 [{ target := .fn (.func 78) #[.pointer (some ⟨B6_4, 0, none⟩), .pointer (some ⟨B7_5, 0, none⟩)], args := #[] }] [(10, .pointer (some ⟨B10_49, 0, none⟩)), (9, .bool true), (8, .int .i64 ((i : Int))), (7, .pointer (some ⟨B7_5, 0, none⟩)), (6, .pointer (some ⟨B6_4, 0, none⟩)), (3, .pointer (some ⟨B3_2, 0, none⟩)), (2, .int .i64 a), (19, .bool false), (28, .bool false), (42, .bool false)] a57 := ⟨sv57.1, sv57.2.1, sv57.2.2.1, sv57.2.2.2.1, sv57.2.2.2.2.1, sv57.2.2.2.2.2.1, sv57.2.2.2.2.2.2.1, sv57.2.2.2.2.2.2.2.1, sv57.2.2.2.2.2.2.2.2.1, sv57.2.2.2.2.2.2.2.2.2.1, sv57.2.2.2.2.2.2.2.2.2.2.1, sv57.2.2.2.2.2.2.2.2.2.2.2.1, trivial⟩
        refine tl_nil ?_
        refine k56 _ _ ?_
        refine wp_seq_k fun K60 k60 => ?_
        have hml : ks.length = ms.length := Own.rdk ow
        have him : i < ms.length := by omega
        obtain ⟨z, hx_z⟩ : ∃ x, ms[i]'him = x := ⟨_, rfl⟩
        refine wp_region_lit ?_
        refine sx_head (sv59.st w58) 6 [(47, Sp.is (.pointer (some ⟨B3_2, 64, none⟩))), (48, Sp.is (.slice ((some ⟨A, 0, none⟩)) ks.length ks.length)), (49, Sp.is (.int .i64 ((i : Int)))), (50, Sp.is (.agg #[.slice ao48 q.1.length cap48])), (51, Sp.is (.pointer (some ⟨(bO ((some ⟨A, 0, none⟩))), oO ((some ⟨A, 0, none⟩)) + i * 33, none⟩))), (52, Sp.is (.pointer (some ⟨(bO ((some ⟨A, 0, none⟩))), oO ((some ⟨A, 0, none⟩)) + i * 33 + 32, none⟩)))] rfl (by kernel_rfl) (by kernel_rfl) (by kernel_rfl)
          ⟨xf rfl rfl rfl rfl rfl (fun _ => by kernel_rfl) rfl, xp (i := 2) rfl rfl rfl rfl rfl (tyKs (.slice ((some ⟨A, 0, none⟩)) ks.length ks.length) rfl) HB3_2 rfl (by simp [bv_length, zero32_len, hsa.1, hpo.1]) rfl, xm rfl rfl rfl rfl rfl, xl rfl rfl rfl rfl rfl (tyT (.slice ao48 q.1.length cap48) rfl) HB10_49 rfl, ox_index rfl rfl trivial (oy rfl rfl) (oy rfl rfl) (fun w => ix_sl Try.underlying56 (by kernel_rfl) (Sl.of_own ow) (by omega) (rfl) w) (fun _ => rfl), xf rfl rfl rfl rfl rfl (fun _ => by kernel_rfl) rfl, trivial⟩ fun a61 w61 g61 st61 => ?_
        obtain ⟨hn61, hd61, e61_47, e61_48, e61_49, e61_50, e61_51, e61_52, e61_10, e61_9, e61_8, e61_7, e61_6, e61_3, e61_2, e61_19, e61_28, e61_42, -⟩ := st61
        replace HB3_2 := rw_kn g61 HB3_2
        replace HB4_3 := rw_kn g61 HB4_3
        replace HB6_4 := rw_kn g61 HB6_4
        replace HB7_5 := rw_kn g61 HB7_5
        replace HB10_49 := rw_kn g61 HB10_49
        replace hr := hr.kn g61
        replace rt := rt.kn g61
        replace ow := ow.kn g61
        replace kr := kr.kn g61
        replace HG := grown_trans HG g61
        have sv61 : Sv 54 [{ target := .fn (.func 78) #[.pointer (some ⟨B6_4, 0, none⟩), .pointer (some ⟨B7_5, 0, none⟩)], args := #[] }] [(10, .pointer (some ⟨B10_49, 0, none⟩)), (9, .bool true), (8, .int .i64 ((i : Int))), (7, .pointer (some ⟨B7_5, 0, none⟩)), (6, .pointer (some ⟨B6_4, 0, none⟩)), (3, .pointer (some ⟨B3_2, 0, none⟩)), (2, .int .i64 a), (19, .bool false), (28, .bool false), (42, .bool false), (50, .agg #[.slice ao48 q.1.length cap48]), (52, .pointer (some ⟨(bO ((some ⟨A, 0, none⟩))), oO ((some ⟨A, 0, none⟩)) + i * 33 + 32, none⟩))] a61 := ⟨hn61, hd61, e61_10, e61_9, e61_8, e61_7, e61_6, e61_3, e61_2, e61_19, e61_28, e61_42, e61_50, e61_52, trivial⟩
        refine tl_storeE (c := kcells) (el := (⟨z.o, z.ho, ao48, cap48, q.1⟩ : VK)) (A := bv z.o) (B := [z.s]) (C := []) sv61 rfl rfl rfl rfl rfl rfl rfl (tyT (.slice ao48 q.1.length cap48) rfl) ow kcells_len (by decide) (him) (by rw [hx_z]; rfl) rfl rfl (by rw [bv_length, z.ho.1]) fun w62 g62 h62 => ?_
        replace HB3_2 := row_of g62 HB3_2 (fun e => ap_ow_B3_2 _ (row_fp (j := i) ow (by omega) rfl) (Option.some.inj e).symm)
        replace HB4_3 := row_of g62 HB4_3 (fun e => ap_ow_B4_3 _ (row_fp (j := i) ow (by omega) rfl) (Option.some.inj e).symm)
        replace HB6_4 := row_of g62 HB6_4 (fun e => ap_ow_B6_4 _ (row_fp (j := i) ow (by omega) rfl) (Option.some.inj e).symm)
        replace HB7_5 := row_of g62 HB7_5 (fun e => ap_ow_B7_5 _ (row_fp (j := i) ow (by omega) rfl) (Option.some.inj e).symm)
        replace HB10_49 := row_of g62 HB10_49 (fun e => ap_ow_B10_49 _ (row_fp (j := i) ow (by omega) rfl) (Option.some.inj e).symm)
        replace hr := hr.offR g62 (fun k hk e => ap_hr_ow k hk (row_fp (j := i) ow (by omega) e))
        replace rt := rt.offR g62 (fun k hk e => ap_rt_ow k hk (row_fp (j := i) ow (by omega) e))
        replace kr := kr.offR g62 (fun k hk e => ap_kr_ow k hk (row_fp (j := i) ow (by omega) e))
        replace HG := grown_from HG g62 fun k e => lo_ow k (row_fp (j := i) ow (by omega) e)
        replace ow := h62
        have sv63 : Sv 54 [{ target := .fn (.func 78) #[.pointer (some ⟨B6_4, 0, none⟩), .pointer (some ⟨B7_5, 0, none⟩)], args := #[] }] [(10, .pointer (some ⟨B10_49, 0, none⟩)), (9, .bool true), (8, .int .i64 ((i : Int))), (7, .pointer (some ⟨B7_5, 0, none⟩)), (6, .pointer (some ⟨B6_4, 0, none⟩)), (3, .pointer (some ⟨B3_2, 0, none⟩)), (2, .int .i64 a), (19, .bool false), (28, .bool false), (42, .bool false)] a61 := ⟨sv61.1, sv61.2.1, sv61.2.2.1, sv61.2.2.2.1, sv61.2.2.2.2.1, sv61.2.2.2.2.2.1, sv61.2.2.2.2.2.2.1, sv61.2.2.2.2.2.2.2.1, sv61.2.2.2.2.2.2.2.2.1, sv61.2.2.2.2.2.2.2.2.2.1, sv61.2.2.2.2.2.2.2.2.2.2.1, sv61.2.2.2.2.2.2.2.2.2.2.2.1, trivial⟩
        refine tl_nil ?_
        have kr2 := KsT.set kr (x := (⟨z.o, z.ho, ao48, cap48, q.1⟩ : VK)) rt i
        have ap_kr2_B3_2 : ∀ k, fpKs (ms.set i (⟨z.o, z.ho, ao48, cap48, q.1⟩ : VK)) k → k ≠ B3_2 := fun k hk => (fpKs_set hk).elim (ap_kr_B3_2 k) (ap_rt_B3_2 k)
        have ap_kr2_B4_3 : ∀ k, fpKs (ms.set i (⟨z.o, z.ho, ao48, cap48, q.1⟩ : VK)) k → k ≠ B4_3 := fun k hk => (fpKs_set hk).elim (ap_kr_B4_3 k) (ap_rt_B4_3 k)
        have ap_kr2_B6_4 : ∀ k, fpKs (ms.set i (⟨z.o, z.ho, ao48, cap48, q.1⟩ : VK)) k → k ≠ B6_4 := fun k hk => (fpKs_set hk).elim (ap_kr_B6_4 k) (ap_rt_B6_4 k)
        have ap_kr2_B7_5 : ∀ k, fpKs (ms.set i (⟨z.o, z.ho, ao48, cap48, q.1⟩ : VK)) k → k ≠ B7_5 := fun k hk => (fpKs_set hk).elim (ap_kr_B7_5 k) (ap_rt_B7_5 k)
        have ap_kr2_B10_49 : ∀ k, fpKs (ms.set i (⟨z.o, z.ho, ao48, cap48, q.1⟩ : VK)) k → k ≠ B10_49 := fun k hk => (fpKs_set hk).elim (ap_kr_B10_49 k) (ap_rt_B10_49 k)
        have ap_kr2_ow : ∀ k, fpKs (ms.set i (⟨z.o, z.ho, ao48, cap48, q.1⟩ : VK)) k → ¬ fpS (.slice ((some ⟨A, 0, none⟩)) ks.length ks.length) k := fun k hk => (fpKs_set hk).elim (ap_kr_ow k) (ap_rt_ow k)
        refine k60 _ _ ?_
        refine wp_seq_k fun K64 k64 => ?_
        refine wp_region_lit ?_
        refine sx_head (sv63.st w62) 1 [(53, Sp.is (vval sa po (.slice ((some ⟨A, 0, none⟩)) ks.length ks.length)))] rfl (by kernel_rfl) (by kernel_rfl) (by kernel_rfl)
          ⟨xl rfl rfl rfl rfl rfl (tyVa hsa hpo (.slice ((some ⟨A, 0, none⟩)) ks.length ks.length) rfl) HB3_2 rfl, trivial⟩ fun a65 w65 g65 st65 => ?_
        obtain ⟨hn65, hd65, e65_53, e65_10, e65_9, e65_8, e65_7, e65_6, e65_3, e65_2, e65_19, e65_28, e65_42, -⟩ := st65
        replace HB3_2 := rw_kn g65 HB3_2
        replace HB4_3 := rw_kn g65 HB4_3
        replace HB6_4 := rw_kn g65 HB6_4
        replace HB7_5 := rw_kn g65 HB7_5
        replace HB10_49 := rw_kn g65 HB10_49
        replace hr := hr.kn g65
        replace ow := ow.kn g65
        replace kr2 := kr2.kn g65
        replace HG := grown_trans HG g65
        have sv65 : Sv 54 [{ target := .fn (.func 78) #[.pointer (some ⟨B6_4, 0, none⟩), .pointer (some ⟨B7_5, 0, none⟩)], args := #[] }] [(10, .pointer (some ⟨B10_49, 0, none⟩)), (9, .bool true), (8, .int .i64 ((i : Int))), (7, .pointer (some ⟨B7_5, 0, none⟩)), (6, .pointer (some ⟨B6_4, 0, none⟩)), (3, .pointer (some ⟨B3_2, 0, none⟩)), (2, .int .i64 a), (19, .bool false), (28, .bool false), (42, .bool false), (53, vval sa po (.slice ((some ⟨A, 0, none⟩)) ks.length ks.length))] a65 := ⟨hn65, hd65, e65_10, e65_9, e65_8, e65_7, e65_6, e65_3, e65_2, e65_19, e65_28, e65_42, e65_53, trivial⟩
        refine tl_storeW sv65 rfl rfl rfl rfl rfl rfl rfl (tyVa hsa hpo (.slice ((some ⟨A, 0, none⟩)) ks.length ks.length) rfl) HB6_4 (by first | rfl | simp [kcells, bv_length, zero32_len, hsa.1, hpo.1]) fun w66 g66 h66 => ?_
        replace HB3_2 := rw_st g66 HB3_2 (Ne.symm ne_B6_4_B3_2)
        replace HB4_3 := rw_st g66 HB4_3 (Ne.symm ne_B6_4_B4_3)
        replace HB7_5 := rw_st g66 HB7_5 ne_B7_5_B6_4
        replace HB10_49 := rw_st g66 HB10_49 ne_B10_49_B6_4
        replace hr := hr.offR g66 (fun k hk e => ap_hr_B6_4 k hk (Option.some.inj e).symm)
        replace ow := ow.offR g66 (fun k hk e => ap_ow_B6_4 k hk (Option.some.inj e).symm)
        replace kr2 := kr2.offR g66 (fun k hk e => ap_kr2_B6_4 k hk (Option.some.inj e).symm)
        replace HG := grown_newR HG g66 lo_B6_4
        replace HB6_4 := h66
        refine tl_storeW sv65 rfl rfl rfl rfl rfl rfl rfl (tyE 0) HB7_5 rfl fun w67 g67 h67 => ?_
        replace HB3_2 := rw_st g67 HB3_2 (Ne.symm ne_B7_5_B3_2)
        replace HB4_3 := rw_st g67 HB4_3 (Ne.symm ne_B7_5_B4_3)
        replace HB6_4 := rw_st g67 HB6_4 (Ne.symm ne_B7_5_B6_4)
        replace HB10_49 := rw_st g67 HB10_49 ne_B10_49_B7_5
        replace hr := hr.offR g67 (fun k hk e => ap_hr_B7_5 k hk (Option.some.inj e).symm)
        replace ow := ow.offR g67 (fun k hk e => ap_ow_B7_5 k hk (Option.some.inj e).symm)
        replace kr2 := kr2.offR g67 (fun k hk e => ap_kr2_B7_5 k hk (Option.some.inj e).symm)
        replace HG := grown_newR HG g67 lo_B7_5
        replace HB7_5 := h67
        have sv68 : Sv 54 [{ target := .fn (.func 78) #[.pointer (some ⟨B6_4, 0, none⟩), .pointer (some ⟨B7_5, 0, none⟩)], args := #[] }] [(10, .pointer (some ⟨B10_49, 0, none⟩)), (9, .bool true), (8, .int .i64 ((i : Int))), (7, .pointer (some ⟨B7_5, 0, none⟩)), (6, .pointer (some ⟨B6_4, 0, none⟩)), (3, .pointer (some ⟨B3_2, 0, none⟩)), (2, .int .i64 a), (19, .bool false), (28, .bool false), (42, .bool false)] a65 := ⟨sv65.1, sv65.2.1, sv65.2.2.1, sv65.2.2.2.1, sv65.2.2.2.2.1, sv65.2.2.2.2.2.1, sv65.2.2.2.2.2.2.1, sv65.2.2.2.2.2.2.2.1, sv65.2.2.2.2.2.2.2.2.1, sv65.2.2.2.2.2.2.2.2.2.1, sv65.2.2.2.2.2.2.2.2.2.2.1, sv65.2.2.2.2.2.2.2.2.2.2.2.1, trivial⟩
        refine tl_nil ?_
        refine k64 _ _ ?_
        refine wp_ret ?_
        repeat refine then_ret ?_
        refine cx_retD (fn := Try.f42) sv68 (res_cell2 (p := 6) (q := 7) Try.results42 sv68 rfl rfl rfl rfl (tyVa hsa hpo (.slice ((some ⟨A, 0, none⟩)) ks.length ks.length) rfl) (tyE 0) HB6_4 HB7_5) (inv_of Try.func78 (by kernel_rfl) rfl _ _) (recShred_walk _ _ _) ?_
        exact VRes.mk (P := setV (ks.map VK.p) o q.1) (shrO_ok ha hv hf hi htr hq hq0) (map_set (el := (⟨z.o, z.ho, ao48, cap48, q.1⟩ : VK)) hmp hf hi him hx_z rfl rfl) ow kr2 HG
      · refine wp_region_lit ?_
        refine sx_head (sv52.st w51) 2 [(41, Sp.is (.int .i64 q.2)), (42, Sp.is (.bool true))] rfl (by kernel_rfl) (by kernel_rfl) (by kernel_rfl)
          ⟨xl rfl rfl rfl rfl rfl (tyE q.2) HB7_5 rfl, ox_bin rfl rfl trivial (oy rfl rfl) rfl (fun _ => rn_neq (by simpa using hq0)) (fun _ => rfl), trivial⟩ fun a69 w69 g69 st69 => ?_
        obtain ⟨hn69, hd69, e69_41, e69_42, e69_10, e69_9, e69_8, e69_7, e69_6, e69_3, e69_2, e69_19, e69_28, -⟩ := st69
        replace HB3_2 := rw_kn g69 HB3_2
        replace HB4_3 := rw_kn g69 HB4_3
        replace HB6_4 := rw_kn g69 HB6_4
        replace HB7_5 := rw_kn g69 HB7_5
        replace HB10_49 := rw_kn g69 HB10_49
        replace hr := hr.kn g69
        replace rt := rt.kn g69
        replace HG := grown_trans HG g69
        have sv69 : Sv 54 [{ target := .fn (.func 78) #[.pointer (some ⟨B6_4, 0, none⟩), .pointer (some ⟨B7_5, 0, none⟩)], args := #[] }] [(10, .pointer (some ⟨B10_49, 0, none⟩)), (9, .bool true), (8, .int .i64 ((i : Int))), (7, .pointer (some ⟨B7_5, 0, none⟩)), (6, .pointer (some ⟨B6_4, 0, none⟩)), (3, .pointer (some ⟨B3_2, 0, none⟩)), (2, .int .i64 a), (19, .bool false), (28, .bool false), (42, .bool true)] a69 := ⟨hn69, hd69, e69_10, e69_9, e69_8, e69_7, e69_6, e69_3, e69_2, e69_19, e69_28, e69_42, trivial⟩
        refine tl_nil ?_
        refine k54 _ _ ?_
        refine cx_ifT sv69 rfl rfl ?_
        refine wp_seq_k fun K70 k70 => ?_
        have gd71 := grown_drew w69
        replace HB3_2 := rw_kn gd71 HB3_2
        replace HB4_3 := rw_kn gd71 HB4_3
        replace HB6_4 := rw_kn gd71 HB6_4
        replace HB7_5 := rw_kn gd71 HB7_5
        replace HB10_49 := rw_kn gd71 HB10_49
        replace hr := hr.kn gd71
        replace rt := rt.kn gd71
        replace HG := grown_trans HG gd71
        refine wp_region_noPanic ?_
        refine region_script (fun w' => w'.heap[B7_5]? = some (.cells [.int .i64 q.2].toArray 23 (0, 0))) [0, 1] [2, 3] (by kernel_rfl) (by kernel_rfl) (fun _ _ d _ _ h => by cases d <;> exact h) rfl (by kernel_rfl) HB7_5 ?_
        simp only [List.filterMap_cons, List.filterMap_nil, List.getElem?_toArray, List.getElem?_cons_succ, List.getElem?_cons_zero]
        refine take_build0 rfl 58 rfl bV0 ?_
        have sv71A : Sv 54 [{ target := .fn (.func 78) #[.pointer (some ⟨B6_4, 0, none⟩), .pointer (some ⟨B7_5, 0, none⟩)], args := #[] }] [(43, vval zero32 zero32 (.slice none 0 0)), (10, .pointer (some ⟨B10_49, 0, none⟩)), (9, .bool true), (8, .int .i64 ((i : Int))), (7, .pointer (some ⟨B7_5, 0, none⟩)), (6, .pointer (some ⟨B6_4, 0, none⟩)), (3, .pointer (some ⟨B3_2, 0, none⟩)), (2, .int .i64 a), (19, .bool false), (28, .bool false), (42, .bool true)] (Act.put a69 (some 43) (vval zero32 zero32 (.slice none 0 0))) := sv69.put (by decide) _
        refine take_load rfl 23 (.tmp 7) (p := .pointer (some ⟨B7_5, 0, none⟩)) rfl (sv71A.ev rfl rfl) (fun _ h => loadsAt (tyE q.2) (rangeAt_row h)) ?_
        have sv71B : Sv 54 [{ target := .fn (.func 78) #[.pointer (some ⟨B6_4, 0, none⟩), .pointer (some ⟨B7_5, 0, none⟩)], args := #[] }] [(44, .int .i64 q.2), (43, vval zero32 zero32 (.slice none 0 0)), (10, .pointer (some ⟨B10_49, 0, none⟩)), (9, .bool true), (8, .int .i64 ((i : Int))), (7, .pointer (some ⟨B7_5, 0, none⟩)), (6, .pointer (some ⟨B6_4, 0, none⟩)), (3, .pointer (some ⟨B3_2, 0, none⟩)), (2, .int .i64 a), (19, .bool false), (28, .bool false), (42, .bool true)] (Act.put (Act.put a69 (some 43) (vval zero32 zero32 (.slice none 0 0))) (some 44) (.int .i64 q.2)) := sv71A.put (by decide) _
        generalize hcl : Act.put (Act.put a69 (some 43) (vval zero32 zero32 (.slice none 0 0))) (some 44) (.int .i64 q.2) = a71 at sv71B
        change wpList _ _ _ _ a71 _
        refine tl_storeW sv71B rfl rfl rfl rfl rfl rfl rfl (tyVa zero32_dg zero32_dg (.slice none 0 0) rfl) HB6_4 (by first | rfl | simp [kcells, bv_length, zero32_len, zero32_dg.1, zero32_dg.1]) fun w72 g72 h72 => ?_
        replace HB3_2 := rw_st g72 HB3_2 (Ne.symm ne_B6_4_B3_2)
        replace HB4_3 := rw_st g72 HB4_3 (Ne.symm ne_B6_4_B4_3)
        replace HB7_5 := rw_st g72 HB7_5 ne_B7_5_B6_4
        replace HB10_49 := rw_st g72 HB10_49 ne_B10_49_B6_4
        replace hr := hr.offR g72 (fun k hk e => ap_hr_B6_4 k hk (Option.some.inj e).symm)
        replace rt := rt.offR g72 (fun k hk e => ap_rt_B6_4 k hk (Option.some.inj e).symm)
        replace HG := grown_newR HG g72 lo_B6_4
        replace HB6_4 := h72
        refine tl_nil ⟨HB7_5, ?_⟩
        change wpList _ _ _ _ _ _
        refine tl_storeW sv71B rfl rfl rfl rfl rfl rfl rfl (tyE q.2) HB7_5 rfl fun w73 g73 h73 => ?_
        replace HB3_2 := rw_st g73 HB3_2 (Ne.symm ne_B7_5_B3_2)
        replace HB4_3 := rw_st g73 HB4_3 (Ne.symm ne_B7_5_B4_3)
        replace HB6_4 := rw_st g73 HB6_4 (Ne.symm ne_B7_5_B6_4)
        replace HB10_49 := rw_st g73 HB10_49 ne_B10_49_B7_5
        replace hr := hr.offR g73 (fun k hk e => ap_hr_B7_5 k hk (Option.some.inj e).symm)
        replace rt := rt.offR g73 (fun k hk e => ap_rt_B7_5 k hk (Option.some.inj e).symm)
        replace HG := grown_newR HG g73 lo_B7_5
        replace HB7_5 := h73
        refine tl_nil ⟨HB7_5, ?_⟩
        refine NoPanic.normal ?_
        refine k70 _ _ ?_
        refine wp_ret ?_
        repeat refine then_ret ?_
        refine cx_retD (fn := Try.f42) sv71B (res_cell2 (p := 6) (q := 7) Try.results42 sv71B rfl rfl rfl rfl (tyVa zero32_dg zero32_dg (.slice none 0 0) rfl) (tyE q.2) HB6_4 HB7_5) (inv_of Try.func78 (by kernel_rfl) rfl _ _) (recShred_walk _ _ _) ?_
        exact VRes.zero (shrO_err ha hv hf hi htr hq hq0) HG
set_option maxRecDepth 100000 in
set_option maxHeartbeats 4000000 in
theorem drp_walk (ks : List VK) (ao : Option Addr) (cap : Nat) (sa po : List Nat) (hsa : Dg sa) (hpo : Dg po) (o : List Nat) (ho : Dg o) (w : World) (hr : RdK w (.slice ao ks.length cap) ks) :
    Calls Try.prog 37 #[vval sa po (.slice ao ks.length cap), dval o] w fun e w' => VRes w w' (drpO (ks.map VK.p, sa, po) o) (fun _ => False) e := by
  refine cx_enterD Try.func37 rfl Try.ntmps37 rfl fun a0 sv0 => ?_
  have HG := World.grownBy.refl w none
  replace sv0 : Sv 32 [] [(0, vval sa po (.slice ao ks.length cap)), (1, dval o)] a0 := sv0
  refine wp_seq_k fun K1 k1 => ?_
  refine wp_region_lit ?_
  refine tl_box sv0 rfl rfl rfl rfl rfl rfl (tyVa hsa hpo (.slice ao ks.length cap) rfl) fun a2 w2 B2_2 eq_B2_2 g2 z2 HB2_2 sv2 => ?_
  have lo_B2_2 := nb_lo HG eq_B2_2
  have ap_hr_B2_2 := nb_ap (hr.lt) eq_B2_2
  replace hr := hr.kn g2
  replace HG := grown_trans HG g2
  replace sv2 : Sv 32 [] [(2, .pointer (some ⟨B2_2, 0, none⟩)), (0, vval sa po (.slice ao ks.length cap)), (1, dval o)] a2 := sv2
  refine tl_box sv2 rfl rfl rfl rfl rfl rfl (tyD o ho.1) fun a3 w3 B3_3 eq_B3_3 g3 z3 HB3_3 sv3 => ?_
  have ne_B3_3_B2_2 := nb_ne HB2_2 eq_B3_3
  have lo_B3_3 := nb_lo HG eq_B3_3
  have ap_hr_B3_3 := nb_ap (hr.lt) eq_B3_3
  replace HB2_2 := rw_kn g3 HB2_2
  replace hr := hr.kn g3
  replace HG := grown_trans HG g3
  replace sv3 : Sv 32 [] [(3, .pointer (some ⟨B3_3, 0, none⟩)), (2, .pointer (some ⟨B2_2, 0, none⟩)), (0, vval sa po (.slice ao ks.length cap)), (1, dval o)] a3 := sv3
  refine tl_alloc (T := 58) (Z := ([bv zero32, bv zero32, [.slice none 0 0]].flatten)) sv3 rfl rfl rfl (fun a w => by kernel_rfl) fun a4 w4 B4_4 eq_B4_4 g4 z4 HB4_4 sv4 => ?_
  have ne_B4_4_B2_2 := nb_ne HB2_2 eq_B4_4
  have ne_B4_4_B3_3 := nb_ne HB3_3 eq_B4_4
  have lo_B4_4 := nb_lo HG eq_B4_4
  have ap_hr_B4_4 := nb_ap (hr.lt) eq_B4_4
  replace HB2_2 := rw_kn g4 HB2_2
  replace HB3_3 := rw_kn g4 HB3_3
  replace hr := hr.kn g4
  replace HG := grown_trans HG g4
  replace sv4 : Sv 32 [] [(4, .pointer (some ⟨B4_4, 0, none⟩)), (3, .pointer (some ⟨B3_3, 0, none⟩)), (2, .pointer (some ⟨B2_2, 0, none⟩)), (0, vval sa po (.slice ao ks.length cap)), (1, dval o)] a4 := sv4
  refine tl_alloc (T := 23) (Z := [.int .i64 0]) sv4 rfl rfl rfl (fun a w => by kernel_rfl) fun a5 w5 B5_5 eq_B5_5 g5 z5 HB5_5 sv5 => ?_
  have ne_B5_5_B2_2 := nb_ne HB2_2 eq_B5_5
  have ne_B5_5_B3_3 := nb_ne HB3_3 eq_B5_5
  have ne_B5_5_B4_4 := nb_ne HB4_4 eq_B5_5
  have lo_B5_5 := nb_lo HG eq_B5_5
  have ap_hr_B5_5 := nb_ap (hr.lt) eq_B5_5
  replace HB2_2 := rw_kn g5 HB2_2
  replace HB3_3 := rw_kn g5 HB3_3
  replace HB4_4 := rw_kn g5 HB4_4
  replace hr := hr.kn g5
  replace HG := grown_trans HG g5
  replace sv5 : Sv 32 [] [(5, .pointer (some ⟨B5_5, 0, none⟩)), (4, .pointer (some ⟨B4_4, 0, none⟩)), (3, .pointer (some ⟨B3_3, 0, none⟩)), (2, .pointer (some ⟨B2_2, 0, none⟩)), (0, vval sa po (.slice ao ks.length cap)), (1, dval o)] a5 := sv5
  have sv6 : Sv 32 [] [(5, .pointer (some ⟨B5_5, 0, none⟩)), (4, .pointer (some ⟨B4_4, 0, none⟩)), (3, .pointer (some ⟨B3_3, 0, none⟩)), (2, .pointer (some ⟨B2_2, 0, none⟩))] a5 := ⟨sv5.1, sv5.2.1, sv5.2.2.1, sv5.2.2.2.1, sv5.2.2.2.2.1, sv5.2.2.2.2.2.1, trivial⟩
  refine tl_nil ?_
  refine k1 _ _ ?_
  refine wp_seq_k fun K7 k7 => ?_
  refine wp_region_lit ?_
  refine tl_makeFunc sv6 rfl rfl rfl rfl rfl rfl fun a8 sv8 => ?_
  replace sv8 : Sv 32 [] [(8, .func (.func 72) #[] #[.pointer (some ⟨B4_4, 0, none⟩), .pointer (some ⟨B5_5, 0, none⟩)]), (5, .pointer (some ⟨B5_5, 0, none⟩)), (4, .pointer (some ⟨B4_4, 0, none⟩)), (3, .pointer (some ⟨B3_3, 0, none⟩)), (2, .pointer (some ⟨B2_2, 0, none⟩))] a8 := sv8
  refine tl_defer sv8 rfl (dd := { target := .fn (.func 72) #[.pointer (some ⟨B4_4, 0, none⟩), .pointer (some ⟨B5_5, 0, none⟩)], args := #[] }) rfl (by have e1 := sv8.ev (x := .tmp 8) rfl rfl; simp [execOp, resolve, Deferred.ofValue, e1]; try rfl) fun a9 sv9 => ?_
  have sv10 : Sv 32 [{ target := .fn (.func 72) #[.pointer (some ⟨B4_4, 0, none⟩), .pointer (some ⟨B5_5, 0, none⟩)], args := #[] }] [(5, .pointer (some ⟨B5_5, 0, none⟩)), (4, .pointer (some ⟨B4_4, 0, none⟩)), (3, .pointer (some ⟨B3_3, 0, none⟩)), (2, .pointer (some ⟨B2_2, 0, none⟩))] a9 := ⟨sv9.1, sv9.2.1, sv9.2.2.2.1, sv9.2.2.2.2.1, sv9.2.2.2.2.2.1, sv9.2.2.2.2.2.2.1, trivial⟩
  refine tl_nil ?_
  refine k7 _ _ ?_
  refine wp_seq_k fun K11 k11 => ?_
  refine wp_seq_k fun K12 k12 => ?_
  cases hv : vldV (ks.map VK.p)
  · refine wp_region_lit ?_
    refine sx_head (sv10.st w5) 3 [(9, Sp.is (vval sa po (.slice ao ks.length cap))), (10, Sp.is (.bool false)), (11, Sp.is (.bool true))] rfl (by kernel_rfl) (by kernel_rfl) (by kernel_rfl)
      ⟨xl rfl rfl rfl rfl rfl (tyVa hsa hpo (.slice ao ks.length cap) rfl) HB2_2 rfl, ox_call (Sp.is (.bool false)) [vval sa po (.slice ao ks.length cap)] rfl rfl trivial ⟨(oy rfl rfl), trivial⟩ (is_on fun W g => vvalid_B hsa hpo (hr.kn g) hv) (fun _ _ h => h) (enter_of Try.func45 (by kernel_rfl) rfl), ox_un rfl rfl trivial (oy rfl rfl) (fun _ => rn_not) (fun _ => rfl), trivial⟩ fun a13 w13 g13 st13 => ?_
    obtain ⟨hn13, hd13, e13_9, e13_10, e13_11, e13_5, e13_4, e13_3, e13_2, -⟩ := st13
    replace HB2_2 := rw_kn g13 HB2_2
    replace HB3_3 := rw_kn g13 HB3_3
    replace HB4_4 := rw_kn g13 HB4_4
    replace HB5_5 := rw_kn g13 HB5_5
    replace hr := hr.kn g13
    replace HG := grown_trans HG g13
    have sv13 : Sv 32 [{ target := .fn (.func 72) #[.pointer (some ⟨B4_4, 0, none⟩), .pointer (some ⟨B5_5, 0, none⟩)], args := #[] }] [(5, .pointer (some ⟨B5_5, 0, none⟩)), (4, .pointer (some ⟨B4_4, 0, none⟩)), (3, .pointer (some ⟨B3_3, 0, none⟩)), (2, .pointer (some ⟨B2_2, 0, none⟩)), (11, .bool true)] a13 := ⟨hn13, hd13, e13_5, e13_4, e13_3, e13_2, e13_11, trivial⟩
    refine tl_nil ?_
    refine k12 _ _ ?_
    refine cx_ifT sv13 rfl rfl ?_
    refine wp_seq_k fun K14 k14 => ?_
    refine wp_region_lit ?_
    refine sx_head (sv13.st w13) 1 [(12, Sp.is (vval zero32 zero32 (.slice none 0 0)))] rfl (by kernel_rfl) (by kernel_rfl) (by kernel_rfl)
      ⟨ox_build (vs := []) rfl rfl trivial trivial (fun _ => bV0 _) (fun _ => rfl), trivial⟩ fun a15 w15 g15 st15 => ?_
    obtain ⟨hn15, hd15, e15_12, e15_5, e15_4, e15_3, e15_2, e15_11, -⟩ := st15
    replace HB2_2 := rw_kn g15 HB2_2
    replace HB3_3 := rw_kn g15 HB3_3
    replace HB4_4 := rw_kn g15 HB4_4
    replace HB5_5 := rw_kn g15 HB5_5
    replace hr := hr.kn g15
    replace HG := grown_trans HG g15
    have sv15 : Sv 32 [{ target := .fn (.func 72) #[.pointer (some ⟨B4_4, 0, none⟩), .pointer (some ⟨B5_5, 0, none⟩)], args := #[] }] [(5, .pointer (some ⟨B5_5, 0, none⟩)), (4, .pointer (some ⟨B4_4, 0, none⟩)), (3, .pointer (some ⟨B3_3, 0, none⟩)), (2, .pointer (some ⟨B2_2, 0, none⟩)), (11, .bool true), (12, vval zero32 zero32 (.slice none 0 0))] a15 := ⟨hn15, hd15, e15_5, e15_4, e15_3, e15_2, e15_11, e15_12, trivial⟩
    refine tl_storeW sv15 rfl rfl rfl rfl rfl rfl rfl (tyVa zero32_dg zero32_dg (.slice none 0 0) rfl) HB4_4 (by first | rfl | simp [kcells, bv_length, zero32_len, zero32_dg.1, zero32_dg.1]) fun w16 g16 h16 => ?_
    replace HB2_2 := rw_st g16 HB2_2 (Ne.symm ne_B4_4_B2_2)
    replace HB3_3 := rw_st g16 HB3_3 (Ne.symm ne_B4_4_B3_3)
    replace HB5_5 := rw_st g16 HB5_5 ne_B5_5_B4_4
    replace hr := hr.offR g16 (fun k hk e => ap_hr_B4_4 k hk (Option.some.inj e).symm)
    replace HG := grown_newR HG g16 lo_B4_4
    replace HB4_4 := h16
    refine tl_storeW sv15 rfl rfl rfl rfl rfl rfl rfl (tyE 1) HB5_5 rfl fun w17 g17 h17 => ?_
    replace HB2_2 := rw_st g17 HB2_2 (Ne.symm ne_B5_5_B2_2)
    replace HB3_3 := rw_st g17 HB3_3 (Ne.symm ne_B5_5_B3_3)
    replace HB4_4 := rw_st g17 HB4_4 (Ne.symm ne_B5_5_B4_4)
    replace hr := hr.offR g17 (fun k hk e => ap_hr_B5_5 k hk (Option.some.inj e).symm)
    replace HG := grown_newR HG g17 lo_B5_5
    replace HB5_5 := h17
    have sv18 : Sv 32 [{ target := .fn (.func 72) #[.pointer (some ⟨B4_4, 0, none⟩), .pointer (some ⟨B5_5, 0, none⟩)], args := #[] }] [(5, .pointer (some ⟨B5_5, 0, none⟩)), (4, .pointer (some ⟨B4_4, 0, none⟩)), (3, .pointer (some ⟨B3_3, 0, none⟩)), (2, .pointer (some ⟨B2_2, 0, none⟩)), (11, .bool true)] a15 := ⟨sv15.1, sv15.2.1, sv15.2.2.1, sv15.2.2.2.1, sv15.2.2.2.2.1, sv15.2.2.2.2.2.1, sv15.2.2.2.2.2.2.1, trivial⟩
    refine tl_nil ?_
    refine k14 _ _ ?_
    refine wp_ret ?_
    repeat refine then_ret ?_
    refine cx_retD (fn := Try.f37) sv18 (res_cell2 (p := 4) (q := 5) Try.results37 sv18 rfl rfl rfl rfl (tyVa zero32_dg zero32_dg (.slice none 0 0) rfl) (tyE 1) HB4_4 HB5_5) (inv_of Try.func72 (by kernel_rfl) rfl _ _) (recDrop_walk _ _ _) ?_
    exact VRes.zero (by unfold drpO; rw [if_neg (by rw [hv]; simp)]) HG
  · obtain ⟨i, hi⟩ : ∃ i, pos (ks.map VK.p) o = i := ⟨_, rfl⟩
    have h64 : ks.length ≤ 64 := by have := (vldV_iff.1 hv).1; simpa using this
    refine wp_region_lit ?_
    refine sx_head (sv10.st w5) 3 [(9, Sp.is (vval sa po (.slice ao ks.length cap))), (10, Sp.is (.bool true)), (11, Sp.is (.bool false))] rfl (by kernel_rfl) (by kernel_rfl) (by kernel_rfl)
      ⟨xl rfl rfl rfl rfl rfl (tyVa hsa hpo (.slice ao ks.length cap) rfl) HB2_2 rfl, ox_call (Sp.is (.bool true)) [vval sa po (.slice ao ks.length cap)] rfl rfl trivial ⟨(oy rfl rfl), trivial⟩ (is_on fun W g => vvalid_B hsa hpo (hr.kn g) hv) (fun _ _ h => h) (enter_of Try.func45 (by kernel_rfl) rfl), ox_un rfl rfl trivial (oy rfl rfl) (fun _ => rn_not) (fun _ => rfl), trivial⟩ fun a19 w19 g19 st19 => ?_
    obtain ⟨hn19, hd19, e19_9, e19_10, e19_11, e19_5, e19_4, e19_3, e19_2, -⟩ := st19
    replace HB2_2 := rw_kn g19 HB2_2
    replace HB3_3 := rw_kn g19 HB3_3
    replace HB4_4 := rw_kn g19 HB4_4
    replace HB5_5 := rw_kn g19 HB5_5
    replace hr := hr.kn g19
    replace HG := grown_trans HG g19
    have sv19 : Sv 32 [{ target := .fn (.func 72) #[.pointer (some ⟨B4_4, 0, none⟩), .pointer (some ⟨B5_5, 0, none⟩)], args := #[] }] [(5, .pointer (some ⟨B5_5, 0, none⟩)), (4, .pointer (some ⟨B4_4, 0, none⟩)), (3, .pointer (some ⟨B3_3, 0, none⟩)), (2, .pointer (some ⟨B2_2, 0, none⟩)), (11, .bool false)] a19 := ⟨hn19, hd19, e19_5, e19_4, e19_3, e19_2, e19_11, trivial⟩
    refine tl_nil ?_
    refine k12 _ _ ?_
    refine cx_ifF sv19 rfl rfl ?_
    refine wp_skip ?_
    refine k11 _ _ ?_
    refine wp_seq_k fun K20 k20 => ?_
    cases hf : fnd (ks.map VK.p) o
    · refine wp_region_lit ?_
      refine sx_head (sv19.st w19) 6 [(14, Sp.is (vval sa po (.slice ao ks.length cap))), (15, Sp.is (dval o)), (16, Sp.is (.tuple #[.int .i64 ((i : Int)), .bool false])), (13, Sp.is (.tuple #[.int .i64 ((i : Int)), .bool false])), (17, Sp.is (.int .i64 ((i : Int)))), (18, Sp.is (.bool false))] rfl (by kernel_rfl) (by kernel_rfl) (by kernel_rfl)
        ⟨xl rfl rfl rfl rfl rfl (tyVa hsa hpo (.slice ao ks.length cap) rfl) HB2_2 rfl, xl rfl rfl rfl rfl rfl (tyD o ho.1) HB3_3 rfl, ox_call (Sp.is (.tuple #[.int .i64 ((i : Int)), .bool false])) [vval sa po (.slice ao ks.length cap), dval o] rfl rfl trivial ⟨(oy rfl rfl), (oy rfl rfl), trivial⟩ (is_on fun W g => find_B hsa hpo ho (hr.kn g) hv hf hi) (fun _ _ h => h) (enter_of Try.func70 (by kernel_rfl) rfl), xm rfl rfl rfl rfl rfl, ox_extract rfl rfl rfl trivial (fun _ _ h => ⟨_, _, h, rfl, rfl⟩), ox_extract rfl rfl rfl trivial (fun _ _ h => ⟨_, _, h, rfl, rfl⟩), trivial⟩ fun a21 w21 g21 st21 => ?_
      obtain ⟨hn21, hd21, e21_14, e21_15, e21_16, e21_13, e21_17, e21_18, e21_5, e21_4, e21_3, e21_2, e21_11, -⟩ := st21
      replace HB2_2 := rw_kn g21 HB2_2
      replace HB3_3 := rw_kn g21 HB3_3
      replace HB4_4 := rw_kn g21 HB4_4
      replace HB5_5 := rw_kn g21 HB5_5
      replace hr := hr.kn g21
      replace HG := grown_trans HG g21
      have sv21 : Sv 32 [{ target := .fn (.func 72) #[.pointer (some ⟨B4_4, 0, none⟩), .pointer (some ⟨B5_5, 0, none⟩)], args := #[] }] [(5, .pointer (some ⟨B5_5, 0, none⟩)), (4, .pointer (some ⟨B4_4, 0, none⟩)), (3, .pointer (some ⟨B3_3, 0, none⟩)), (2, .pointer (some ⟨B2_2, 0, none⟩)), (11, .bool false), (17, .int .i64 ((i : Int))), (18, .bool false)] a21 := ⟨hn21, hd21, e21_5, e21_4, e21_3, e21_2, e21_11, e21_17, e21_18, trivial⟩
      refine tl_assign sv21 rfl (.inl rfl) rfl rfl rfl rfl fun a22 sv22 => ?_
      replace sv22 : Sv 32 [{ target := .fn (.func 72) #[.pointer (some ⟨B4_4, 0, none⟩), .pointer (some ⟨B5_5, 0, none⟩)], args := #[] }] [(6, .int .i64 ((i : Int))), (5, .pointer (some ⟨B5_5, 0, none⟩)), (4, .pointer (some ⟨B4_4, 0, none⟩)), (3, .pointer (some ⟨B3_3, 0, none⟩)), (2, .pointer (some ⟨B2_2, 0, none⟩)), (11, .bool false), (17, .int .i64 ((i : Int))), (18, .bool false)] a22 := sv22
      refine tl_assign sv22 rfl (.inl rfl) rfl rfl rfl rfl fun a23 sv23 => ?_
      replace sv23 : Sv 32 [{ target := .fn (.func 72) #[.pointer (some ⟨B4_4, 0, none⟩), .pointer (some ⟨B5_5, 0, none⟩)], args := #[] }] [(7, .bool false), (6, .int .i64 ((i : Int))), (5, .pointer (some ⟨B5_5, 0, none⟩)), (4, .pointer (some ⟨B4_4, 0, none⟩)), (3, .pointer (some ⟨B3_3, 0, none⟩)), (2, .pointer (some ⟨B2_2, 0, none⟩)), (11, .bool false), (17, .int .i64 ((i : Int))), (18, .bool false)] a23 := sv23
      have sv24 : Sv 32 [{ target := .fn (.func 72) #[.pointer (some ⟨B4_4, 0, none⟩), .pointer (some ⟨B5_5, 0, none⟩)], args := #[] }] [(7, .bool false), (6, .int .i64 ((i : Int))), (5, .pointer (some ⟨B5_5, 0, none⟩)), (4, .pointer (some ⟨B4_4, 0, none⟩)), (2, .pointer (some ⟨B2_2, 0, none⟩)), (11, .bool false)] a23 := ⟨sv23.1, sv23.2.1, sv23.2.2.1, sv23.2.2.2.1, sv23.2.2.2.2.1, sv23.2.2.2.2.2.1, sv23.2.2.2.2.2.2.2.1, sv23.2.2.2.2.2.2.2.2.1, trivial⟩
      refine tl_nil ?_
      refine k20 _ _ ?_
      refine wp_seq_k fun K25 k25 => ?_
      refine wp_seq_k fun K26 k26 => ?_
      refine wp_region_lit ?_
      refine sx_head (sv24.st w21) 2 [(19, Sp.is (.bool false)), (20, Sp.is (.bool true))] rfl (by kernel_rfl) (by kernel_rfl) (by kernel_rfl)
        ⟨xm rfl rfl rfl rfl rfl, ox_un rfl rfl trivial (oy rfl rfl) (fun _ => rn_not) (fun _ => rfl), trivial⟩ fun a27 w27 g27 st27 => ?_
      obtain ⟨hn27, hd27, e27_19, e27_20, e27_7, e27_6, e27_5, e27_4, e27_2, e27_11, -⟩ := st27
      replace HB2_2 := rw_kn g27 HB2_2
      replace HB3_3 := rw_kn g27 HB3_3
      replace HB4_4 := rw_kn g27 HB4_4
      replace HB5_5 := rw_kn g27 HB5_5
      replace hr := hr.kn g27
      replace HG := grown_trans HG g27
      have sv27 : Sv 32 [{ target := .fn (.func 72) #[.pointer (some ⟨B4_4, 0, none⟩), .pointer (some ⟨B5_5, 0, none⟩)], args := #[] }] [(7, .bool false), (6, .int .i64 ((i : Int))), (5, .pointer (some ⟨B5_5, 0, none⟩)), (4, .pointer (some ⟨B4_4, 0, none⟩)), (2, .pointer (some ⟨B2_2, 0, none⟩)), (11, .bool false), (20, .bool true)] a27 := ⟨hn27, hd27, e27_7, e27_6, e27_5, e27_4, e27_2, e27_11, e27_20, trivial⟩
      refine tl_nil ?_
      refine k26 _ _ ?_
      refine cx_ifT sv27 rfl rfl ?_
      refine wp_seq_k fun K28 k28 => ?_
      refine wp_region_lit ?_
      refine sx_head (sv27.st w27) 1 [(21, Sp.is (vval zero32 zero32 (.slice none 0 0)))] rfl (by kernel_rfl) (by kernel_rfl) (by kernel_rfl)
        ⟨ox_build (vs := []) rfl rfl trivial trivial (fun _ => bV0 _) (fun _ => rfl), trivial⟩ fun a29 w29 g29 st29 => ?_
      obtain ⟨hn29, hd29, e29_21, e29_7, e29_6, e29_5, e29_4, e29_2, e29_11, e29_20, -⟩ := st29
      replace HB2_2 := rw_kn g29 HB2_2
      replace HB3_3 := rw_kn g29 HB3_3
      replace HB4_4 := rw_kn g29 HB4_4
      replace HB5_5 := rw_kn g29 HB5_5
      replace hr := hr.kn g29
      replace HG := grown_trans HG g29
      have sv29 : Sv 32 [{ target := .fn (.func 72) #[.pointer (some ⟨B4_4, 0, none⟩), .pointer (some ⟨B5_5, 0, none⟩)], args := #[] }] [(7, .bool false), (6, .int .i64 ((i : Int))), (5, .pointer (some ⟨B5_5, 0, none⟩)), (4, .pointer (some ⟨B4_4, 0, none⟩)), (2, .pointer (some ⟨B2_2, 0, none⟩)), (11, .bool false), (20, .bool true), (21, vval zero32 zero32 (.slice none 0 0))] a29 := ⟨hn29, hd29, e29_7, e29_6, e29_5, e29_4, e29_2, e29_11, e29_20, e29_21, trivial⟩
      refine tl_storeW sv29 rfl rfl rfl rfl rfl rfl rfl (tyVa zero32_dg zero32_dg (.slice none 0 0) rfl) HB4_4 (by first | rfl | simp [kcells, bv_length, zero32_len, zero32_dg.1, zero32_dg.1]) fun w30 g30 h30 => ?_
      replace HB2_2 := rw_st g30 HB2_2 (Ne.symm ne_B4_4_B2_2)
      replace HB3_3 := rw_st g30 HB3_3 (Ne.symm ne_B4_4_B3_3)
      replace HB5_5 := rw_st g30 HB5_5 ne_B5_5_B4_4
      replace hr := hr.offR g30 (fun k hk e => ap_hr_B4_4 k hk (Option.some.inj e).symm)
      replace HG := grown_newR HG g30 lo_B4_4
      replace HB4_4 := h30
      refine tl_storeW sv29 rfl rfl rfl rfl rfl rfl rfl (tyE 10) HB5_5 rfl fun w31 g31 h31 => ?_
      replace HB2_2 := rw_st g31 HB2_2 (Ne.symm ne_B5_5_B2_2)
      replace HB3_3 := rw_st g31 HB3_3 (Ne.symm ne_B5_5_B3_3)
      replace HB4_4 := rw_st g31 HB4_4 (Ne.symm ne_B5_5_B4_4)
      replace hr := hr.offR g31 (fun k hk e => ap_hr_B5_5 k hk (Option.some.inj e).symm)
      replace HG := grown_newR HG g31 lo_B5_5
      replace HB5_5 := h31
      have sv32 : Sv 32 [{ target := .fn (.func 72) #[.pointer (some ⟨B4_4, 0, none⟩), .pointer (some ⟨B5_5, 0, none⟩)], args := #[] }] [(7, .bool false), (6, .int .i64 ((i : Int))), (5, .pointer (some ⟨B5_5, 0, none⟩)), (4, .pointer (some ⟨B4_4, 0, none⟩)), (2, .pointer (some ⟨B2_2, 0, none⟩)), (11, .bool false), (20, .bool true)] a29 := ⟨sv29.1, sv29.2.1, sv29.2.2.1, sv29.2.2.2.1, sv29.2.2.2.2.1, sv29.2.2.2.2.2.1, sv29.2.2.2.2.2.2.1, sv29.2.2.2.2.2.2.2.1, sv29.2.2.2.2.2.2.2.2.1, trivial⟩
      refine tl_nil ?_
      refine k28 _ _ ?_
      refine wp_ret ?_
      repeat refine then_ret ?_
      refine cx_retD (fn := Try.f37) sv32 (res_cell2 (p := 4) (q := 5) Try.results37 sv32 rfl rfl rfl rfl (tyVa zero32_dg zero32_dg (.slice none 0 0) rfl) (tyE 10) HB4_4 HB5_5) (inv_of Try.func72 (by kernel_rfl) rfl _ _) (recDrop_walk _ _ _) ?_
      exact VRes.zero (by unfold drpO; rw [if_pos hv, if_neg (by rw [hf]; simp)]) HG
    · have hil : i < ks.length := by have := (fnd_at hf).1; rw [hi] at this; simpa using this
      obtain ⟨x, hx_x⟩ : ∃ x, ks[i]'hil = x := ⟨_, rfl⟩
      have htr : tr (ks.map VK.p) i = x.l := by rw [tr_map hil, hx_x]
      refine wp_region_lit ?_
      refine sx_head (sv19.st w19) 6 [(14, Sp.is (vval sa po (.slice ao ks.length cap))), (15, Sp.is (dval o)), (16, Sp.is (.tuple #[.int .i64 ((i : Int)), .bool true])), (13, Sp.is (.tuple #[.int .i64 ((i : Int)), .bool true])), (17, Sp.is (.int .i64 ((i : Int)))), (18, Sp.is (.bool true))] rfl (by kernel_rfl) (by kernel_rfl) (by kernel_rfl)
        ⟨xl rfl rfl rfl rfl rfl (tyVa hsa hpo (.slice ao ks.length cap) rfl) HB2_2 rfl, xl rfl rfl rfl rfl rfl (tyD o ho.1) HB3_3 rfl, ox_call (Sp.is (.tuple #[.int .i64 ((i : Int)), .bool true])) [vval sa po (.slice ao ks.length cap), dval o] rfl rfl trivial ⟨(oy rfl rfl), (oy rfl rfl), trivial⟩ (is_on fun W g => find_B hsa hpo ho (hr.kn g) hv hf hi) (fun _ _ h => h) (enter_of Try.func70 (by kernel_rfl) rfl), xm rfl rfl rfl rfl rfl, ox_extract rfl rfl rfl trivial (fun _ _ h => ⟨_, _, h, rfl, rfl⟩), ox_extract rfl rfl rfl trivial (fun _ _ h => ⟨_, _, h, rfl, rfl⟩), trivial⟩ fun a33 w33 g33 st33 => ?_
      obtain ⟨hn33, hd33, e33_14, e33_15, e33_16, e33_13, e33_17, e33_18, e33_5, e33_4, e33_3, e33_2, e33_11, -⟩ := st33
      replace HB2_2 := rw_kn g33 HB2_2
      replace HB3_3 := rw_kn g33 HB3_3
      replace HB4_4 := rw_kn g33 HB4_4
      replace HB5_5 := rw_kn g33 HB5_5
      replace hr := hr.kn g33
      replace HG := grown_trans HG g33
      have sv33 : Sv 32 [{ target := .fn (.func 72) #[.pointer (some ⟨B4_4, 0, none⟩), .pointer (some ⟨B5_5, 0, none⟩)], args := #[] }] [(5, .pointer (some ⟨B5_5, 0, none⟩)), (4, .pointer (some ⟨B4_4, 0, none⟩)), (3, .pointer (some ⟨B3_3, 0, none⟩)), (2, .pointer (some ⟨B2_2, 0, none⟩)), (11, .bool false), (17, .int .i64 ((i : Int))), (18, .bool true)] a33 := ⟨hn33, hd33, e33_5, e33_4, e33_3, e33_2, e33_11, e33_17, e33_18, trivial⟩
      refine tl_assign sv33 rfl (.inl rfl) rfl rfl rfl rfl fun a34 sv34 => ?_
      replace sv34 : Sv 32 [{ target := .fn (.func 72) #[.pointer (some ⟨B4_4, 0, none⟩), .pointer (some ⟨B5_5, 0, none⟩)], args := #[] }] [(6, .int .i64 ((i : Int))), (5, .pointer (some ⟨B5_5, 0, none⟩)), (4, .pointer (some ⟨B4_4, 0, none⟩)), (3, .pointer (some ⟨B3_3, 0, none⟩)), (2, .pointer (some ⟨B2_2, 0, none⟩)), (11, .bool false), (17, .int .i64 ((i : Int))), (18, .bool true)] a34 := sv34
      refine tl_assign sv34 rfl (.inl rfl) rfl rfl rfl rfl fun a35 sv35 => ?_
      replace sv35 : Sv 32 [{ target := .fn (.func 72) #[.pointer (some ⟨B4_4, 0, none⟩), .pointer (some ⟨B5_5, 0, none⟩)], args := #[] }] [(7, .bool true), (6, .int .i64 ((i : Int))), (5, .pointer (some ⟨B5_5, 0, none⟩)), (4, .pointer (some ⟨B4_4, 0, none⟩)), (3, .pointer (some ⟨B3_3, 0, none⟩)), (2, .pointer (some ⟨B2_2, 0, none⟩)), (11, .bool false), (17, .int .i64 ((i : Int))), (18, .bool true)] a35 := sv35
      have sv36 : Sv 32 [{ target := .fn (.func 72) #[.pointer (some ⟨B4_4, 0, none⟩), .pointer (some ⟨B5_5, 0, none⟩)], args := #[] }] [(7, .bool true), (6, .int .i64 ((i : Int))), (5, .pointer (some ⟨B5_5, 0, none⟩)), (4, .pointer (some ⟨B4_4, 0, none⟩)), (2, .pointer (some ⟨B2_2, 0, none⟩)), (11, .bool false)] a35 := ⟨sv35.1, sv35.2.1, sv35.2.2.1, sv35.2.2.2.1, sv35.2.2.2.2.1, sv35.2.2.2.2.2.1, sv35.2.2.2.2.2.2.2.1, sv35.2.2.2.2.2.2.2.2.1, trivial⟩
      refine tl_nil ?_
      refine k20 _ _ ?_
      refine wp_seq_k fun K37 k37 => ?_
      refine wp_seq_k fun K38 k38 => ?_
      refine wp_region_lit ?_
      refine sx_head (sv36.st w33) 2 [(19, Sp.is (.bool true)), (20, Sp.is (.bool false))] rfl (by kernel_rfl) (by kernel_rfl) (by kernel_rfl)
        ⟨xm rfl rfl rfl rfl rfl, ox_un rfl rfl trivial (oy rfl rfl) (fun _ => rn_not) (fun _ => rfl), trivial⟩ fun a39 w39 g39 st39 => ?_
      obtain ⟨hn39, hd39, e39_19, e39_20, e39_7, e39_6, e39_5, e39_4, e39_2, e39_11, -⟩ := st39
      replace HB2_2 := rw_kn g39 HB2_2
      replace HB3_3 := rw_kn g39 HB3_3
      replace HB4_4 := rw_kn g39 HB4_4
      replace HB5_5 := rw_kn g39 HB5_5
      replace hr := hr.kn g39
      replace HG := grown_trans HG g39
      have sv39 : Sv 32 [{ target := .fn (.func 72) #[.pointer (some ⟨B4_4, 0, none⟩), .pointer (some ⟨B5_5, 0, none⟩)], args := #[] }] [(7, .bool true), (6, .int .i64 ((i : Int))), (5, .pointer (some ⟨B5_5, 0, none⟩)), (4, .pointer (some ⟨B4_4, 0, none⟩)), (2, .pointer (some ⟨B2_2, 0, none⟩)), (11, .bool false), (20, .bool false)] a39 := ⟨hn39, hd39, e39_7, e39_6, e39_5, e39_4, e39_2, e39_11, e39_20, trivial⟩
      refine tl_nil ?_
      refine k38 _ _ ?_
      refine cx_ifF sv39 rfl rfl ?_
      refine wp_skip ?_
      refine k37 _ _ ?_
      refine wp_seq_k fun K40 k40 => ?_
      refine wp_region_lit ?_
      refine sx_head (sv39.st w39) 2 [(22, Sp.is (vval sa po (.slice ao ks.length cap))), (23, Sp.cln w39.heap.size sa po ks.length (ks.map VK.p))] rfl (by kernel_rfl) (by kernel_rfl) (by kernel_rfl)
        ⟨xl rfl rfl rfl rfl rfl (tyVa hsa hpo (.slice ao ks.length cap) rfl) HB2_2 rfl, ox_call (Sp.cln w39.heap.size sa po ks.length (ks.map VK.p)) [vval sa po (.slice ao ks.length cap)] rfl rfl trivial ⟨(oy rfl rfl), trivial⟩ (cloned_on hsa hpo hr h64) (fun _ _ h => h) (enter_of Try.func69 (by kernel_rfl) rfl), trivial⟩ fun a41 w41 g41 st41 => ?_
      obtain ⟨hn41, hd41, e41_22, e41_23, e41_7, e41_6, e41_5, e41_4, e41_2, e41_11, e41_20, -⟩ := st41
      obtain ⟨A, ms, e41_23q, hmp, ow, kr, frA, frK⟩ := e41_23
      have fr_ow : ∀ k, fpS (.slice ((some ⟨A, 0, none⟩)) ks.length ks.length) k → w39.heap.size ≤ k := fun k hk => (Option.some.inj hk) ▸ frA
      have fr_kr : ∀ k, fpKs ms k → w39.heap.size ≤ k := fun k hk => (frK k hk).1
      have ap_kr_ow : ∀ k, fpKs ms k → ¬ fpS (.slice ((some ⟨A, 0, none⟩)) ks.length ks.length) k := fun k hk e => (frK k hk).2 (Option.some.inj e).symm
      have ap_ow_B2_2 := fr_ap fr_ow HB2_2
      have ap_ow_B3_3 := fr_ap fr_ow HB3_3
      have ap_ow_B4_4 := fr_ap fr_ow HB4_4
      have ap_ow_B5_5 := fr_ap fr_ow HB5_5
      have ap_hr_ow : ∀ k, fpK (.slice ao ks.length cap) ks k → ¬ fpS (.slice ((some ⟨A, 0, none⟩)) ks.length ks.length) k := fun k hzr hk => absurd (hr.lt k hzr) (Nat.not_lt.2 (fr_ow k hk))
      have lo_ow : ∀ k, fpS (.slice ((some ⟨A, 0, none⟩)) ks.length ks.length) k → w.heap.size ≤ k := fun k hk => Nat.le_trans HG.size (fr_ow k hk)
      have ap_kr_B2_2 := fr_ap fr_kr HB2_2
      have ap_kr_B3_3 := fr_ap fr_kr HB3_3
      have ap_kr_B4_4 := fr_ap fr_kr HB4_4
      have ap_kr_B5_5 := fr_ap fr_kr HB5_5
      have lo_kr : ∀ k, fpKs ms k → w.heap.size ≤ k := fun k hk => Nat.le_trans HG.size (fr_kr k hk)
      replace HB2_2 := rw_kn g41 HB2_2
      replace HB3_3 := rw_kn g41 HB3_3
      replace HB4_4 := rw_kn g41 HB4_4
      replace HB5_5 := rw_kn g41 HB5_5
      replace hr := hr.kn g41
      replace HG := grown_trans HG g41
      have sv41 : Sv 32 [{ target := .fn (.func 72) #[.pointer (some ⟨B4_4, 0, none⟩), .pointer (some ⟨B5_5, 0, none⟩)], args := #[] }] [(7, .bool true), (6, .int .i64 ((i : Int))), (5, .pointer (some ⟨B5_5, 0, none⟩)), (4, .pointer (some ⟨B4_4, 0, none⟩)), (2, .pointer (some ⟨B2_2, 0, none⟩)), (11, .bool false), (20, .bool false), (23, vval sa po (.slice ((some ⟨A, 0, none⟩)) ks.length ks.length))] a41 := ⟨hn41, hd41, e41_7, e41_6, e41_5, e41_4, e41_2, e41_11, e41_20, e41_23q, trivial⟩
      refine tl_storeW sv41 rfl rfl rfl rfl rfl rfl rfl (tyVa hsa hpo (.slice ((some ⟨A, 0, none⟩)) ks.length ks.length) rfl) HB2_2 (by first | rfl | simp [kcells, bv_length, zero32_len, hsa.1, hpo.1, hsa.1, hpo.1]) fun w42 g42 h42 => ?_
      replace HB3_3 := rw_st g42 HB3_3 ne_B3_3_B2_2
      replace HB4_4 := rw_st g42 HB4_4 ne_B4_4_B2_2
      replace HB5_5 := rw_st g42 HB5_5 ne_B5_5_B2_2
      replace hr := hr.offR g42 (fun k hk e => ap_hr_B2_2 k hk (Option.some.inj e).symm)
      replace ow := ow.offR g42 (fun k hk e => ap_ow_B2_2 k hk (Option.some.inj e).symm)
      replace kr := kr.offR g42 (fun k hk e => ap_kr_B2_2 k hk (Option.some.inj e).symm)
      replace HG := grown_newR HG g42 lo_B2_2
      replace HB2_2 := h42
      have sv43 : Sv 32 [{ target := .fn (.func 72) #[.pointer (some ⟨B4_4, 0, none⟩), .pointer (some ⟨B5_5, 0, none⟩)], args := #[] }] [(7, .bool true), (6, .int .i64 ((i : Int))), (5, .pointer (some ⟨B5_5, 0, none⟩)), (4, .pointer (some ⟨B4_4, 0, none⟩)), (2, .pointer (some ⟨B2_2, 0, none⟩)), (11, .bool false), (20, .bool false)] a41 := ⟨sv41.1, sv41.2.1, sv41.2.2.1, sv41.2.2.2.1, sv41.2.2.2.2.1, sv41.2.2.2.2.2.1, sv41.2.2.2.2.2.2.1, sv41.2.2.2.2.2.2.2.1, sv41.2.2.2.2.2.2.2.2.1, trivial⟩
      refine tl_nil ?_
      refine k40 _ _ ?_
      refine wp_seq_k fun K44 k44 => ?_
      refine wp_region_lit ?_
      refine sx_head (sv43.st w42) 5 [(24, Sp.is (.pointer (some ⟨B2_2, 64, none⟩))), (25, Sp.is (.slice ((some ⟨A, 0, none⟩)) ks.length ks.length)), (26, Sp.is (.int .i64 ((i : Int)))), (27, Sp.is (.int .i64 ((i : Int)))), (28, Sp.is (.int .i64 (((i + 1 : Nat) : Int))))] rfl (by kernel_rfl) (by kernel_rfl) (by kernel_rfl)
        ⟨xf rfl rfl rfl rfl rfl (fun _ => by kernel_rfl) rfl, xp (i := 2) rfl rfl rfl rfl rfl (tyKs (.slice ((some ⟨A, 0, none⟩)) ks.length ks.length) rfl) HB2_2 rfl (by simp [bv_length, zero32_len, hsa.1, hpo.1]) rfl, xm rfl rfl rfl rfl rfl, xm rfl rfl rfl rfl rfl, ox_bin rfl rfl trivial (oy rfl rfl) rfl (fun _ => rn_add (by rw [wrap_i64 (by omega) (by omega)]; omega)) (fun _ => rfl), trivial⟩ fun a45 w45 g45 st45 => ?_
      obtain ⟨hn45, hd45, e45_24, e45_25, e45_26, e45_27, e45_28, e45_7, e45_6, e45_5, e45_4, e45_2, e45_11, e45_20, -⟩ := st45
      replace HB2_2 := rw_kn g45 HB2_2
      replace HB3_3 := rw_kn g45 HB3_3
      replace HB4_4 := rw_kn g45 HB4_4
      replace HB5_5 := rw_kn g45 HB5_5
      replace hr := hr.kn g45
      replace ow := ow.kn g45
      replace kr := kr.kn g45
      replace HG := grown_trans HG g45
      have sv45 : Sv 32 [{ target := .fn (.func 72) #[.pointer (some ⟨B4_4, 0, none⟩), .pointer (some ⟨B5_5, 0, none⟩)], args := #[] }] [(7, .bool true), (6, .int .i64 ((i : Int))), (5, .pointer (some ⟨B5_5, 0, none⟩)), (4, .pointer (some ⟨B4_4, 0, none⟩)), (2, .pointer (some ⟨B2_2, 0, none⟩)), (11, .bool false), (20, .bool false), (25, .slice ((some ⟨A, 0, none⟩)) ks.length ks.length), (26, .int .i64 ((i : Int))), (28, .int .i64 (((i + 1 : Nat) : Int)))] a45 := ⟨hn45, hd45, e45_7, e45_6, e45_5, e45_4, e45_2, e45_11, e45_20, e45_25, e45_26, e45_28, trivial⟩
      have hml : ks.length = ms.length := Own.rdk ow
      refine tl_call sv45 rfl rfl rfl rfl rfl (del_call hml ow hil h64) (enter_of Try.func73 (by kernel_rfl) rfl) fun a46 v46 w46 hD sv46 => ?_
      obtain ⟨aoD, capD, rfl, od, gD, frD⟩ := hD
      have ap_od_B2_2 : ∀ k, fpS (.slice aoD (ks.length - 1) capD) k → k ≠ B2_2 := fun k hk => (frD k hk).elim (fun e => e ▸ ap_ow_B2_2 A rfl) (fun h => Nat.ne_of_gt (Nat.lt_of_lt_of_le (Array.getElem?_eq_some_iff.1 HB2_2).1 h))
      have ap_od_B3_3 : ∀ k, fpS (.slice aoD (ks.length - 1) capD) k → k ≠ B3_3 := fun k hk => (frD k hk).elim (fun e => e ▸ ap_ow_B3_3 A rfl) (fun h => Nat.ne_of_gt (Nat.lt_of_lt_of_le (Array.getElem?_eq_some_iff.1 HB3_3).1 h))
      have ap_od_B4_4 : ∀ k, fpS (.slice aoD (ks.length - 1) capD) k → k ≠ B4_4 := fun k hk => (frD k hk).elim (fun e => e ▸ ap_ow_B4_4 A rfl) (fun h => Nat.ne_of_gt (Nat.lt_of_lt_of_le (Array.getElem?_eq_some_iff.1 HB4_4).1 h))
      have ap_od_B5_5 : ∀ k, fpS (.slice aoD (ks.length - 1) capD) k → k ≠ B5_5 := fun k hk => (frD k hk).elim (fun e => e ▸ ap_ow_B5_5 A rfl) (fun h => Nat.ne_of_gt (Nat.lt_of_lt_of_le (Array.getElem?_eq_some_iff.1 HB5_5).1 h))
      have lo_od : ∀ k, fpS (.slice aoD (ks.length - 1) capD) k → w.heap.size ≤ k := fun k hk => (frD k hk).elim (fun e => e ▸ lo_ow A rfl) (fun h => Nat.le_trans HG.size h)
      replace HB2_2 := row_of gD HB2_2 (fun e => ap_ow_B2_2 _ (rfl) (Option.some.inj e).symm)
      replace HB3_3 := row_of gD HB3_3 (fun e => ap_ow_B3_3 _ (rfl) (Option.some.inj e).symm)
      replace HB4_4 := row_of gD HB4_4 (fun e => ap_ow_B4_4 _ (rfl) (Option.some.inj e).symm)
      replace HB5_5 := row_of gD HB5_5 (fun e => ap_ow_B5_5 _ (rfl) (Option.some.inj e).symm)
      replace hr := hr.offR gD (fun k hk e => ap_hr_ow k hk (e))
      replace kr := kr.offR gD (fun k hk e => ap_kr_ow k hk (e))
      replace HG := grown_from HG gD fun k e => lo_ow k (e)
      replace sv46 : Sv 32 [{ target := .fn (.func 72) #[.pointer (some ⟨B4_4, 0, none⟩), .pointer (some ⟨B5_5, 0, none⟩)], args := #[] }] [(29, .slice aoD (ks.length - 1) capD), (7, .bool true), (6, .int .i64 ((i : Int))), (5, .pointer (some ⟨B5_5, 0, none⟩)), (4, .pointer (some ⟨B4_4, 0, none⟩)), (2, .pointer (some ⟨B2_2, 0, none⟩)), (11, .bool false), (20, .bool false), (25, .slice ((some ⟨A, 0, none⟩)) ks.length ks.length), (26, .int .i64 ((i : Int))), (28, .int .i64 (((i + 1 : Nat) : Int)))] a46 := sv46
      have sv47 : Sv 32 [{ target := .fn (.func 72) #[.pointer (some ⟨B4_4, 0, none⟩), .pointer (some ⟨B5_5, 0, none⟩)], args := #[] }] [(29, .slice aoD (ks.length - 1) capD), (7, .bool true), (5, .pointer (some ⟨B5_5, 0, none⟩)), (4, .pointer (some ⟨B4_4, 0, none⟩)), (2, .pointer (some ⟨B2_2, 0, none⟩)), (11, .bool false), (20, .bool false)] a46 := ⟨sv46.1, sv46.2.1, sv46.2.2.1, sv46.2.2.2.1, sv46.2.2.2.2.2.1, sv46.2.2.2.2.2.2.1, sv46.2.2.2.2.2.2.2.1, sv46.2.2.2.2.2.2.2.2.1, sv46.2.2.2.2.2.2.2.2.2.1, trivial⟩
      refine sx_head (sv47.st w46) 1 [(30, Sp.is (.pointer (some ⟨B2_2, 64, none⟩)))] rfl (by kernel_rfl) (by kernel_rfl) (by kernel_rfl)
        ⟨xf rfl rfl rfl rfl rfl (fun _ => by kernel_rfl) rfl, trivial⟩ fun a48 w48 g48 st48 => ?_
      obtain ⟨hn48, hd48, e48_30, e48_29, e48_7, e48_5, e48_4, e48_2, e48_11, e48_20, -⟩ := st48
      replace HB2_2 := rw_kn g48 HB2_2
      replace HB3_3 := rw_kn g48 HB3_3
      replace HB4_4 := rw_kn g48 HB4_4
      replace HB5_5 := rw_kn g48 HB5_5
      replace hr := hr.kn g48
      replace kr := kr.kn g48
      replace od := od.kn g48
      replace HG := grown_trans HG g48
      have sv48 : Sv 32 [{ target := .fn (.func 72) #[.pointer (some ⟨B4_4, 0, none⟩), .pointer (some ⟨B5_5, 0, none⟩)], args := #[] }] [(29, .slice aoD (ks.length - 1) capD), (7, .bool true), (5, .pointer (some ⟨B5_5, 0, none⟩)), (4, .pointer (some ⟨B4_4, 0, none⟩)), (2, .pointer (some ⟨B2_2, 0, none⟩)), (11, .bool false), (20, .bool false), (30, .pointer (some ⟨B2_2, 64, none⟩))] a48 := ⟨hn48, hd48, e48_29, e48_7, e48_5, e48_4, e48_2, e48_11, e48_20, e48_30, trivial⟩
      refine tl_storeP (L := [bv sa, bv po, [.slice ((some ⟨A, 0, none⟩)) ks.length ks.length]]) (i := 2) sv48 rfl rfl rfl rfl rfl rfl rfl (tyKs (.slice aoD (ks.length - 1) capD) rfl) HB2_2 rfl (by simp [bv_length, zero32_len, hsa.1, hpo.1]) rfl fun w49 g49 h49 => ?_
      replace HB3_3 := rw_st g49 HB3_3 ne_B3_3_B2_2
      replace HB4_4 := rw_st g49 HB4_4 ne_B4_4_B2_2
      replace HB5_5 := rw_st g49 HB5_5 ne_B5_5_B2_2
      replace hr := hr.offR g49 (fun k hk e => ap_hr_B2_2 k hk (Option.some.inj e).symm)
      replace kr := kr.offR g49 (fun k hk e => ap_kr_B2_2 k hk (Option.some.inj e).symm)
      replace od := od.offR g49 (fun k hk e => ap_od_B2_2 k hk (Option.some.inj e).symm)
      replace HG := grown_newR HG g49 lo_B2_2
      replace HB2_2 := h49
      have sv50 : Sv 32 [{ target := .fn (.func 72) #[.pointer (some ⟨B4_4, 0, none⟩), .pointer (some ⟨B5_5, 0, none⟩)], args := #[] }] [(7, .bool true), (5, .pointer (some ⟨B5_5, 0, none⟩)), (4, .pointer (some ⟨B4_4, 0, none⟩)), (2, .pointer (some ⟨B2_2, 0, none⟩)), (11, .bool false), (20, .bool false)] a48 := ⟨sv48.1, sv48.2.1, sv48.2.2.2.1, sv48.2.2.2.2.1, sv48.2.2.2.2.2.1, sv48.2.2.2.2.2.2.1, sv48.2.2.2.2.2.2.2.1, sv48.2.2.2.2.2.2.2.2.1, trivial⟩
      refine tl_nil ?_
      refine k44 _ _ ?_
      refine wp_seq_k fun K51 k51 => ?_
      refine wp_region_lit ?_
      refine sx_head (sv50.st w49) 1 [(31, Sp.is (vval sa po (.slice aoD (ks.length - 1) capD)))] rfl (by kernel_rfl) (by kernel_rfl) (by kernel_rfl)
        ⟨xl rfl rfl rfl rfl rfl (tyVa hsa hpo (.slice aoD (ks.length - 1) capD) rfl) HB2_2 rfl, trivial⟩ fun a52 w52 g52 st52 => ?_
      obtain ⟨hn52, hd52, e52_31, e52_7, e52_5, e52_4, e52_2, e52_11, e52_20, -⟩ := st52
      replace HB2_2 := rw_kn g52 HB2_2
      replace HB3_3 := rw_kn g52 HB3_3
      replace HB4_4 := rw_kn g52 HB4_4
      replace HB5_5 := rw_kn g52 HB5_5
      replace hr := hr.kn g52
      replace kr := kr.kn g52
      replace od := od.kn g52
      replace HG := grown_trans HG g52
      have sv52 : Sv 32 [{ target := .fn (.func 72) #[.pointer (some ⟨B4_4, 0, none⟩), .pointer (some ⟨B5_5, 0, none⟩)], args := #[] }] [(7, .bool true), (5, .pointer (some ⟨B5_5, 0, none⟩)), (4, .pointer (some ⟨B4_4, 0, none⟩)), (2, .pointer (some ⟨B2_2, 0, none⟩)), (11, .bool false), (20, .bool false), (31, vval sa po (.slice aoD (ks.length - 1) capD))] a52 := ⟨hn52, hd52, e52_7, e52_5, e52_4, e52_2, e52_11, e52_20, e52_31, trivial⟩
      refine tl_storeW sv52 rfl rfl rfl rfl rfl rfl rfl (tyVa hsa hpo (.slice aoD (ks.length - 1) capD) rfl) HB4_4 (by first | rfl | simp [kcells, bv_length, zero32_len, hsa.1, hpo.1]) fun w53 g53 h53 => ?_
      replace HB2_2 := rw_st g53 HB2_2 (Ne.symm ne_B4_4_B2_2)
      replace HB3_3 := rw_st g53 HB3_3 (Ne.symm ne_B4_4_B3_3)
      replace HB5_5 := rw_st g53 HB5_5 ne_B5_5_B4_4
      replace hr := hr.offR g53 (fun k hk e => ap_hr_B4_4 k hk (Option.some.inj e).symm)
      replace kr := kr.offR g53 (fun k hk e => ap_kr_B4_4 k hk (Option.some.inj e).symm)
      replace od := od.offR g53 (fun k hk e => ap_od_B4_4 k hk (Option.some.inj e).symm)
      replace HG := grown_newR HG g53 lo_B4_4
      replace HB4_4 := h53
      refine tl_storeW sv52 rfl rfl rfl rfl rfl rfl rfl (tyE 0) HB5_5 rfl fun w54 g54 h54 => ?_
      replace HB2_2 := rw_st g54 HB2_2 (Ne.symm ne_B5_5_B2_2)
      replace HB3_3 := rw_st g54 HB3_3 (Ne.symm ne_B5_5_B3_3)
      replace HB4_4 := rw_st g54 HB4_4 (Ne.symm ne_B5_5_B4_4)
      replace hr := hr.offR g54 (fun k hk e => ap_hr_B5_5 k hk (Option.some.inj e).symm)
      replace kr := kr.offR g54 (fun k hk e => ap_kr_B5_5 k hk (Option.some.inj e).symm)
      replace od := od.offR g54 (fun k hk e => ap_od_B5_5 k hk (Option.some.inj e).symm)
      replace HG := grown_newR HG g54 lo_B5_5
      replace HB5_5 := h54
      have sv55 : Sv 32 [{ target := .fn (.func 72) #[.pointer (some ⟨B4_4, 0, none⟩), .pointer (some ⟨B5_5, 0, none⟩)], args := #[] }] [(7, .bool true), (5, .pointer (some ⟨B5_5, 0, none⟩)), (4, .pointer (some ⟨B4_4, 0, none⟩)), (2, .pointer (some ⟨B2_2, 0, none⟩)), (11, .bool false), (20, .bool false)] a52 := ⟨sv52.1, sv52.2.1, sv52.2.2.1, sv52.2.2.2.1, sv52.2.2.2.2.1, sv52.2.2.2.2.2.1, sv52.2.2.2.2.2.2.1, sv52.2.2.2.2.2.2.2.1, trivial⟩
      refine tl_nil ?_
      refine k51 _ _ ?_
      refine wp_ret ?_
      repeat refine then_ret ?_
      refine cx_retD (fn := Try.f37) sv55 (res_cell2 (p := 4) (q := 5) Try.results37 sv55 rfl rfl rfl rfl (tyVa hsa hpo (.slice aoD (ks.length - 1) capD) rfl) (tyE 0) HB4_4 HB5_5) (inv_of Try.func72 (by kernel_rfl) rfl _ _) (recDrop_walk _ _ _) ?_
      exact VRes.mk (P := dropV (ks.map VK.p) o) (by unfold drpO; rw [if_pos hv, if_pos hf]) (map_del hmp hi) od (KsT.del kr i) HG
end Go.Proofs.Yteakoleceoclkaa
