/- Vaults: Ensure, Shred, Drop. (printed by gen_v8.py) -/
import Derived.Test.YteakoleceoclkaaV7
namespace Go.Proofs.Yteakoleceoclkaa
open Go.RowKit Go.Shelf
set_option linter.unusedSimpArgs false
set_option linter.unusedVariables false
/-- the block k holds nodes or keys of vaults -/
def TagV (w : World) (k : Nat) : Prop := TagB w k ∨ ∃ c fr, w.heap[k]? = some (.cells c 65 fr)
theorem TagV.keep {w w' : World} {k : Nat} (h : TagV w k) {row : Option Nat} (g : w.grownBy w' row) (hb : row ≠ some k) : TagV w' k := h.imp (·.keep g hb) fun ⟨c, fr, h1⟩ => ⟨c, fr, row_of g h1 fun e => hb e.symm⟩
theorem tagv_ne {w : World} {k b : Nat} {c : Array Value} {T : TypeId} {fr : Nat × Nat} (h : TagV w k) (hb : w.heap[b]? = some (.cells c T fr)) (hT : T ≠ 91 ∧ T ≠ 65) : k ≠ b := by
  rcases h with h | ⟨c', fr', h1⟩
  · exact tag_ne h hb hT.1
  · rintro rfl
    rw [hb] at h1
    simp only [Option.some.injEq, Obj.cells.injEq] at h1
    exact hT.2 h1.2.1
/-- what a function of vaults hands back; what it reads lies in the argument's memory (fp), or in blocks of nodes and keys -/
def VRes (w w' : World) (r : VV × Int) (fp : Nat → Prop) (e : Ending) : Prop := ∃ ao cap ks, e = .returned (.tuple #[vval r.1.2.1 r.1.2.2 (.slice ao ks.length cap), .int .i64 r.2]) ∧ ks.map VK.p = r.1.1 ∧ RdK w' (.slice ao ks.length cap) ks ∧ (∀ k, fpK (.slice ao ks.length cap) ks k → fp k ∨ TagV w' k) ∧ w.grownBy w' none
theorem VRes.zero {w w' : World} {r : VV × Int} {fp : Nat → Prop} {c : Int} (hr : r = (zeroV, c)) (h : w.grownBy w' none) : VRes w w' r fp (.returned (.tuple #[vval zero32 zero32 (.slice none 0 0), .int .i64 c])) := by
  subst hr
  exact ⟨none, 0, [], rfl, rfl, RdK.nil w', fun k hk => (fpK_nil k hk).elim, h⟩
theorem VRes.mk2 {w w' : World} {r : VV × Int} {fp : Nat → Prop} {P : List VP} {sa po : List Nat} {c : Int} {ao : Option Addr} {n cap : Nat} {ks : List VK} (hr : r = ((P, sa, po), c)) (hp : ks.map VK.p = P) (ho : Own w' 65 33 (.slice ao n cap) n (ks.flatMap kcells)) (hk : KsR w' ks) (h2 : ∀ k, fpKs ks k → fp k ∨ TagB w' k)
    (h : w.grownBy w' none) : VRes w w' r fp (.returned (.tuple #[vval sa po (.slice ao n cap), .int .i64 c])) := by
  obtain rfl := Own.rdk ho
  subst hr
  exact ⟨ao, cap, ks, rfl, hp, ⟨ho.sb, hk⟩, fun k hk => hk.elim (fun h => .inr (.inr (Own.block ho h))) (fun h => (h2 k h).imp id .inl), h⟩
theorem VRes.mk {w w' : World} {r : VV × Int} {fp : Nat → Prop} {P : List VP} {sa po : List Nat} {c : Int} {ao : Option Addr} {n cap : Nat} {ks : List VK} (hr : r = ((P, sa, po), c)) (hp : ks.map VK.p = P) (ho : Own w' 65 33 (.slice ao n cap) n (ks.flatMap kcells)) (hk : KsT w' ks)
    (h : w.grownBy w' none) : VRes w w' r fp (.returned (.tuple #[vval sa po (.slice ao n cap), .int .i64 c])) := VRes.mk2 hr hp ho hk.1 (fun k hk' => .inr (hk.2 k hk')) h
theorem VRes.same {w w' : World} {r : VV × Int} {fp : Nat → Prop} {P : List VP} {sa po : List Nat} {c : Int} {ao : Option Addr} {cap : Nat} {ks : List VK} (hr : r = ((P, sa, po), c)) (hp : ks.map VK.p = P) (ho : RdK w' (.slice ao ks.length cap) ks)
    (h1 : ∀ k, fpK (.slice ao ks.length cap) ks k → fp k) (h : w.grownBy w' none) : VRes w w' r fp (.returned (.tuple #[vval sa po (.slice ao ks.length cap), .int .i64 c])) := by
  subst hr
  exact ⟨ao, cap, ks, rfl, hp, ho, fun k hk => .inl (h1 k hk), h⟩
def Sp.cln (B : Nat) (sa po : List Nat) (n : Nat) (P : List VP) : Sp := ⟨fun w v => ∃ (A : Nat) (ms : List VK), v = vval sa po (.slice (some ⟨A, 0, none⟩) n n) ∧ ms.map VK.p = P ∧ Own w 65 33 (.slice (some ⟨A, 0, none⟩) n n) n (ms.flatMap kcells) ∧ KsT w ms ∧ B ≤ A ∧ ∀ k, fpKs ms k → B ≤ k ∧ k ≠ A,
  fun _ _ _ hg ⟨A, ms, h1, h2, h3, h4, h5, h6⟩ => ⟨A, ms, h1, h2, h3.kn hg, h4.kn hg, h5, h6⟩⟩
theorem cloned_on {w0 : World} {ks : List VK} {ao : Option Addr} {cap : Nat} {sa po : List Nat} (hsa : Dg sa) (hpo : Dg po) (hr : RdK w0 (.slice ao ks.length cap) ks) (h64 : ks.length ≤ 64) : ∀ W, w0.grownBy W none → Calls Try.prog 69 #[vval sa po (.slice ao ks.length cap)] W fun e W' => ∃ v, e = .returned v ∧ W.grownBy W' none ∧ (Sp.cln w0.heap.size sa po ks.length (ks.map VK.p)).on W' v := fun W g =>
  (cloned_walk ks ao cap sa po hsa hpo W (hr.kn g) h64).mono fun e W' ⟨A, ms, h1, h2, h3, h4, h5, h6, h7⟩ => ⟨_, h1, h7, A, ms, rfl, h2, h3, h4, Nat.le_trans g.size h5, fun k hk => ⟨Nat.le_trans g.size (h6 k hk).1, (h6 k hk).2⟩⟩
/-- a new tree -/
theorem newt_on {w0 : World} {k : List Nat} {T : List Nd} (hk : Dg k) (hT : tree k [] = T) : ∀ W, w0.grownBy W none → Calls Try.prog 21 #[dval k] W fun e W' => ∃ v, e = .returned v ∧ W.grownBy W' none ∧ (Sp.ct w0.heap.size T).on W' v := fun W g =>
  (new_walk k hk W).mono fun e W' ⟨s, he, ho, hf⟩ => by
    have htag : Tag W' s := Tag.of ho
    obtain ⟨ao, cap, rfl, h1, h2⟩ := NewC hk ho hf
    have h3 : (1 : Nat) = T.length := by rw [← hT, tree_nil]; rfl
    subst hT
    rw [h3] at h1 he hf htag
    exact ⟨_, he, h2, ao, cap, rfl, ⟨h1, htag⟩, fun k hk => Nat.le_trans g.size ((hf.2 k hk).elim (fun h => by simp [Value.ownBlock] at h) id)⟩
/-- one key more -/
theorem KsT.ins {w : World} {ms : List VK} (h : KsT w ms) {x : VK} (hx : RdTg w x.s x.l) (i : Nat) : KsT w (ms.take i ++ x :: ms.drop i) := by
  have hh : ∀ k, k ∈ ms.take i ++ x :: ms.drop i → k ∈ ms ∨ k = x := fun k hk => by
    rcases List.mem_append.1 hk with hk | hk
    · exact .inl (List.mem_of_mem_take hk)
    · rcases List.mem_cons.1 hk with rfl | hk
      · exact .inr rfl
      · exact .inl (List.mem_of_mem_drop hk)
  exact ⟨fun k hk => (hh k hk).elim (h.1 k) fun e => e ▸ hx.1, fun b ⟨k, hk, hb⟩ => (hh k hk).elim (fun h1 => h.2 b ⟨k, h1, hb⟩) fun e => hx.2 b (e ▸ hb)⟩
theorem KsR.ins {w : World} {ms : List VK} (h : KsR w ms) {x : VK} (hx : RdT w x.s x.l) (i : Nat) : KsR w (ms.take i ++ x :: ms.drop i) := fun k hk => by
  rcases List.mem_append.1 hk with hk | hk
  · exact h k (List.mem_of_mem_take hk)
  · rcases List.mem_cons.1 hk with rfl | hk
    · exact hx
    · exact h k (List.mem_of_mem_drop hk)
def Sp.insr (B n : Nat) (ks : List VK) : Sp := ⟨fun w v => ∃ ao cap, v = .slice ao n cap ∧ Own w 65 33 (.slice ao n cap) n (ks.flatMap kcells) ∧ ∀ k, fpS (.slice ao n cap) k → B ≤ k, fun _ _ _ hg ⟨ao, cap, h1, h2, h3⟩ => ⟨ao, cap, h1, h2.kn hg, h3⟩⟩
theorem ins_on {w0 : World} {ms : List VK} {x : VK} {i A V n : Nat} (hn : n = ms.length) (hown : Own w0 65 33 (.slice (some ⟨A, 0, none⟩) n n) n (ms.flatMap kcells)) (hv : w0.heap[V]? = some (.cells (kcells x).toArray 65 (0, 0))) (hi : i ≤ n) (h64 : n ≤ 64) :
    ∀ W, w0.grownBy W none → Calls Try.prog 71 #[.slice (some ⟨A, 0, none⟩) n n, .int .i64 (i : Int), .slice (some ⟨V, 0, none⟩) 1 1] W fun e W' => ∃ v, e = .returned v ∧ W.grownBy W' none ∧ (Sp.insr w0.heap.size (n + 1) (ms.take i ++ x :: ms.drop i)).on W' v := fun W g => by
  subst hn
  exact (insert_full ms x i A V W (hown.kn g) (row_of g hv (by simp)) hi (by omega)).mono fun e W' ⟨v, h1, h2, h3, h4⟩ => by
    obtain ⟨ao, cap, rfl, _⟩ := (Sl.of_own h2).shape
    exact ⟨_, h1, h3, ao, cap, rfl, h2, fun k hk => Nat.le_trans g.size (h4 k hk)⟩
theorem map_ins {ms : List VK} {P : List VP} {o : List Nat} {T : List Nd} {x : VK} {i : Nat} (h : ms.map VK.p = P) (hi : pos P o = i) (ho : x.o = o) (hl : x.l = T) : (ms.take i ++ x :: ms.drop i).map VK.p = insV P o T := by
  unfold insV
  rw [hi, List.map_append, List.map_cons, List.map_take, List.map_drop, h]
  simp [VK.p, ho, hl]
theorem find_own {w : World} {ks ms : List VK} {A n : Nat} {sa po o : List Nat} (hsa : Dg sa) (hpo : Dg po) (ho : Dg o) (hm : ms.map VK.p = ks.map VK.p) (ow : Own w 65 33 (.slice (some ⟨A, 0, none⟩) n n) n (ms.flatMap kcells)) (kr : KsR w ms) (hv : vldV (ks.map VK.p) = true) {b : Bool} (hb : fnd (ks.map VK.p) o = b) {i : Nat} (hi : pos (ks.map VK.p) o = i) :
    Calls Try.prog 70 #[vval sa po (.slice (some ⟨A, 0, none⟩) n n), dval o] w fun e w' => e = .returned (.tuple #[.int .i64 (i : Int), .bool b]) ∧ w.grownBy w' none := by
  obtain rfl := Own.rdk ow
  rw [← hm] at hv hb hi
  exact find_B hsa hpo ho ⟨ow.sb, kr⟩ hv hb hi
set_option maxRecDepth 100000 in
set_option maxHeartbeats 4000000 in
theorem ens_walk (ks : List VK) (ao : Option Addr) (cap : Nat) (sa po : List Nat) (hsa : Dg sa) (hpo : Dg po) (o : List Nat) (ho : Dg o) (T : List Nd) (hT : tree (kd 275 po) [] = T) (w : World) (hr : RdK w (.slice ao ks.length cap) ks) :
    Calls Try.prog 36 #[vval sa po (.slice ao ks.length cap), dval o] w fun e w' => VRes w w' (ensO (ks.map VK.p, sa, po) o T (kd 276 po)) (fun _ => False) e := by
  have hTl : 0 < T.length := by rw [← hT, tree_nil]; exact Nat.zero_lt_one
  refine cx_enterD Try.func36 rfl Try.ntmps36 rfl fun a0 sv0 => ?_
  have HG := World.grownBy.refl w none
  replace sv0 : Sv 47 [] [(0, vval sa po (.slice ao ks.length cap)), (1, dval o)] a0 := sv0
  refine wp_seq_k fun K1 k1 => ?_
  refine wp_region_lit ?_
  refine tl_box sv0 rfl rfl rfl rfl rfl rfl (tyVa hsa hpo (.slice ao ks.length cap) rfl) fun a2 w2 B2_2 eq_B2_2 g2 z2 HB2_2 sv2 => ?_
  have lo_B2_2 := nb_lo HG eq_B2_2
  have ap_hr_B2_2 := nb_ap (hr.lt) eq_B2_2
  replace hr := hr.kn g2
  replace HG := grown_trans HG g2
  replace sv2 : Sv 47 [] [(2, .pointer (some ⟨B2_2, 0, none⟩)), (0, vval sa po (.slice ao ks.length cap)), (1, dval o)] a2 := sv2
  refine tl_box sv2 rfl rfl rfl rfl rfl rfl (tyD o ho.1) fun a3 w3 B3_3 eq_B3_3 g3 z3 HB3_3 sv3 => ?_
  have ne_B3_3_B2_2 := nb_ne HB2_2 eq_B3_3
  have lo_B3_3 := nb_lo HG eq_B3_3
  have ap_hr_B3_3 := nb_ap (hr.lt) eq_B3_3
  replace HB2_2 := rw_kn g3 HB2_2
  replace hr := hr.kn g3
  replace HG := grown_trans HG g3
  replace sv3 : Sv 47 [] [(3, .pointer (some ⟨B3_3, 0, none⟩)), (2, .pointer (some ⟨B2_2, 0, none⟩)), (0, vval sa po (.slice ao ks.length cap)), (1, dval o)] a3 := sv3
  refine tl_alloc (T := 58) (Z := ([bv zero32, bv zero32, [.slice none 0 0]].flatten)) sv3 rfl rfl rfl (fun a w => by kernel_rfl) fun a4 w4 B4_4 eq_B4_4 g4 z4 HB4_4 sv4 => ?_
  have ne_B4_4_B2_2 := nb_ne HB2_2 eq_B4_4
  have ne_B4_4_B3_3 := nb_ne HB3_3 eq_B4_4
  have lo_B4_4 := nb_lo HG eq_B4_4
  have ap_hr_B4_4 := nb_ap (hr.lt) eq_B4_4
  replace HB2_2 := rw_kn g4 HB2_2
  replace HB3_3 := rw_kn g4 HB3_3
  replace hr := hr.kn g4
  replace HG := grown_trans HG g4
  replace sv4 : Sv 47 [] [(4, .pointer (some ⟨B4_4, 0, none⟩)), (3, .pointer (some ⟨B3_3, 0, none⟩)), (2, .pointer (some ⟨B2_2, 0, none⟩)), (0, vval sa po (.slice ao ks.length cap)), (1, dval o)] a4 := sv4
  refine tl_alloc (T := 23) (Z := [.int .i64 0]) sv4 rfl rfl rfl (fun a w => by kernel_rfl) fun a5 w5 B5_5 eq_B5_5 g5 z5 HB5_5 sv5 => ?_
  have ne_B5_5_B2_2 := nb_ne HB2_2 eq_B5_5
  have ne_B5_5_B3_3 := nb_ne HB3_3 eq_B5_5
  have ne_B5_5_B4_4 := nb_ne HB4_4 eq_B5_5
  have lo_B5_5 := nb_lo HG eq_B5_5
  have ap_hr_B5_5 := nb_ap (hr.lt) eq_B5_5
  replace HB2_2 := rw_kn g5 HB2_2
  replace HB3_3 := rw_kn g5 HB3_3
  replace HB4_4 := rw_kn g5 HB4_4
  replace hr := hr.kn g5
  replace HG := grown_trans HG g5
  replace sv5 : Sv 47 [] [(5, .pointer (some ⟨B5_5, 0, none⟩)), (4, .pointer (some ⟨B4_4, 0, none⟩)), (3, .pointer (some ⟨B3_3, 0, none⟩)), (2, .pointer (some ⟨B2_2, 0, none⟩)), (0, vval sa po (.slice ao ks.length cap)), (1, dval o)] a5 := sv5
  have sv6 : Sv 47 [] [(5, .pointer (some ⟨B5_5, 0, none⟩)), (4, .pointer (some ⟨B4_4, 0, none⟩)), (3, .pointer (some ⟨B3_3, 0, none⟩)), (2, .pointer (some ⟨B2_2, 0, none⟩))] a5 := ⟨sv5.1, sv5.2.1, sv5.2.2.1, sv5.2.2.2.1, sv5.2.2.2.2.1, sv5.2.2.2.2.2.1, trivial⟩
  refine tl_nil ?_
  refine k1 _ _ ?_
  refine wp_seq_k fun K7 k7 => ?_
  refine wp_region_lit ?_
  refine tl_makeFunc sv6 rfl rfl rfl rfl rfl rfl fun a8 sv8 => ?_
  replace sv8 : Sv 47 [] [(9, .func (.func 68) #[] #[.pointer (some ⟨B4_4, 0, none⟩), .pointer (some ⟨B5_5, 0, none⟩)]), (5, .pointer (some ⟨B5_5, 0, none⟩)), (4, .pointer (some ⟨B4_4, 0, none⟩)), (3, .pointer (some ⟨B3_3, 0, none⟩)), (2, .pointer (some ⟨B2_2, 0, none⟩))] a8 := sv8
  refine tl_defer sv8 rfl (dd := { target := .fn (.func 68) #[.pointer (some ⟨B4_4, 0, none⟩), .pointer (some ⟨B5_5, 0, none⟩)], args := #[] }) rfl (by have e1 := sv8.ev (x := .tmp 9) rfl rfl; simp [execOp, resolve, Deferred.ofValue, e1]; try rfl) fun a9 sv9 => ?_
  have sv10 : Sv 47 [{ target := .fn (.func 68) #[.pointer (some ⟨B4_4, 0, none⟩), .pointer (some ⟨B5_5, 0, none⟩)], args := #[] }] [(5, .pointer (some ⟨B5_5, 0, none⟩)), (4, .pointer (some ⟨B4_4, 0, none⟩)), (3, .pointer (some ⟨B3_3, 0, none⟩)), (2, .pointer (some ⟨B2_2, 0, none⟩))] a9 := ⟨sv9.1, sv9.2.1, sv9.2.2.2.1, sv9.2.2.2.2.1, sv9.2.2.2.2.2.1, sv9.2.2.2.2.2.2.1, trivial⟩
  refine tl_nil ?_
  refine k7 _ _ ?_
  refine wp_seq_k fun K11 k11 => ?_
  refine wp_seq_k fun K12 k12 => ?_
  cases hv : vldV (ks.map VK.p)
  · refine wp_region_lit ?_
    refine sx_head (sv10.st w5) 3 [(10, Sp.is (vval sa po (.slice ao ks.length cap))), (11, Sp.is (.bool false)), (12, Sp.is (.bool true))] rfl (by kernel_rfl) (by kernel_rfl) (by kernel_rfl)
      ⟨xl rfl rfl rfl rfl rfl (tyVa hsa hpo (.slice ao ks.length cap) rfl) HB2_2 rfl, ox_call (Sp.is (.bool false)) [vval sa po (.slice ao ks.length cap)] rfl rfl trivial ⟨(oy rfl rfl), trivial⟩ (is_on fun W g => vvalid_B hsa hpo (hr.kn g) hv) (fun _ _ h => h) (enter_of Try.func45 (by kernel_rfl) rfl), ox_un rfl rfl trivial (oy rfl rfl) (fun _ => rn_not) (fun _ => rfl), trivial⟩ fun a13 w13 g13 st13 => ?_
    obtain ⟨hn13, hd13, e13_10, e13_11, e13_12, e13_5, e13_4, e13_3, e13_2, -⟩ := st13
    replace HB2_2 := rw_kn g13 HB2_2
    replace HB3_3 := rw_kn g13 HB3_3
    replace HB4_4 := rw_kn g13 HB4_4
    replace HB5_5 := rw_kn g13 HB5_5
    replace hr := hr.kn g13
    replace HG := grown_trans HG g13
    have sv13 : Sv 47 [{ target := .fn (.func 68) #[.pointer (some ⟨B4_4, 0, none⟩), .pointer (some ⟨B5_5, 0, none⟩)], args := #[] }] [(5, .pointer (some ⟨B5_5, 0, none⟩)), (4, .pointer (some ⟨B4_4, 0, none⟩)), (3, .pointer (some ⟨B3_3, 0, none⟩)), (2, .pointer (some ⟨B2_2, 0, none⟩)), (12, .bool true)] a13 := ⟨hn13, hd13, e13_5, e13_4, e13_3, e13_2, e13_12, trivial⟩
    refine tl_nil ?_
    refine k12 _ _ ?_
    refine cx_ifT sv13 rfl rfl ?_
    refine wp_seq_k fun K14 k14 => ?_
    refine wp_region_lit ?_
    refine sx_head (sv13.st w13) 1 [(13, Sp.is (vval zero32 zero32 (.slice none 0 0)))] rfl (by kernel_rfl) (by kernel_rfl) (by kernel_rfl)
      ⟨ox_build (vs := []) rfl rfl trivial trivial (fun _ => bV0 _) (fun _ => rfl), trivial⟩ fun a15 w15 g15 st15 => ?_
    obtain ⟨hn15, hd15, e15_13, e15_5, e15_4, e15_3, e15_2, e15_12, -⟩ := st15
    replace HB2_2 := rw_kn g15 HB2_2
    replace HB3_3 := rw_kn g15 HB3_3
    replace HB4_4 := rw_kn g15 HB4_4
    replace HB5_5 := rw_kn g15 HB5_5
    replace hr := hr.kn g15
    replace HG := grown_trans HG g15
    have sv15 : Sv 47 [{ target := .fn (.func 68) #[.pointer (some ⟨B4_4, 0, none⟩), .pointer (some ⟨B5_5, 0, none⟩)], args := #[] }] [(5, .pointer (some ⟨B5_5, 0, none⟩)), (4, .pointer (some ⟨B4_4, 0, none⟩)), (3, .pointer (some ⟨B3_3, 0, none⟩)), (2, .pointer (some ⟨B2_2, 0, none⟩)), (12, .bool true), (13, vval zero32 zero32 (.slice none 0 0))] a15 := ⟨hn15, hd15, e15_5, e15_4, e15_3, e15_2, e15_12, e15_13, trivial⟩
    refine tl_storeW sv15 rfl rfl rfl rfl rfl rfl rfl (tyVa zero32_dg zero32_dg (.slice none 0 0) rfl) HB4_4 (by first | rfl | simp [kcells, bv_length, zero32_len, zero32_dg.1, zero32_dg.1]) fun w16 g16 h16 => ?_
    replace HB2_2 := rw_st g16 HB2_2 (Ne.symm ne_B4_4_B2_2)
    replace HB3_3 := rw_st g16 HB3_3 (Ne.symm ne_B4_4_B3_3)
    replace HB5_5 := rw_st g16 HB5_5 ne_B5_5_B4_4
    replace hr := hr.offR g16 (fun k hk e => ap_hr_B4_4 k hk (Option.some.inj e).symm)
    replace HG := grown_newR HG g16 lo_B4_4
    replace HB4_4 := h16
    refine tl_storeW sv15 rfl rfl rfl rfl rfl rfl rfl (tyE 1) HB5_5 rfl fun w17 g17 h17 => ?_
    replace HB2_2 := rw_st g17 HB2_2 (Ne.symm ne_B5_5_B2_2)
    replace HB3_3 := rw_st g17 HB3_3 (Ne.symm ne_B5_5_B3_3)
    replace HB4_4 := rw_st g17 HB4_4 (Ne.symm ne_B5_5_B4_4)
    replace hr := hr.offR g17 (fun k hk e => ap_hr_B5_5 k hk (Option.some.inj e).symm)
    replace HG := grown_newR HG g17 lo_B5_5
    replace HB5_5 := h17
    have sv18 : Sv 47 [{ target := .fn (.func 68) #[.pointer (some ⟨B4_4, 0, none⟩), .pointer (some ⟨B5_5, 0, none⟩)], args := #[] }] [(5, .pointer (some ⟨B5_5, 0, none⟩)), (4, .pointer (some ⟨B4_4, 0, none⟩)), (3, .pointer (some ⟨B3_3, 0, none⟩)), (2, .pointer (some ⟨B2_2, 0, none⟩)), (12, .bool true)] a15 := ⟨sv15.1, sv15.2.1, sv15.2.2.1, sv15.2.2.2.1, sv15.2.2.2.2.1, sv15.2.2.2.2.2.1, sv15.2.2.2.2.2.2.1, trivial⟩
    refine tl_nil ?_
    refine k14 _ _ ?_
    refine wp_ret ?_
    repeat refine then_ret ?_
    refine cx_retD (fn := Try.f36) sv18 (res_cell2 (p := 4) (q := 5) Try.results36 sv18 rfl rfl rfl rfl (tyVa zero32_dg zero32_dg (.slice none 0 0) rfl) (tyE 1) HB4_4 HB5_5) (inv_of Try.func68 (by kernel_rfl) rfl _ _) (recEnsure_walk _ _ _) ?_
    exact VRes.zero (by unfold ensO; rw [if_neg (by rw [hv]; simp)]) HG
  · obtain ⟨i, hi⟩ : ∃ i, pos (ks.map VK.p) o = i := ⟨_, rfl⟩
    have h64 : ks.length ≤ 64 := by have := (vldV_iff.1 hv).1; simpa using this
    have hin : i ≤ ks.length := by rw [← hi]; simpa using pos_le (ks.map VK.p) o
    refine wp_region_lit ?_
    refine sx_head (sv10.st w5) 3 [(10, Sp.is (vval sa po (.slice ao ks.length cap))), (11, Sp.is (.bool true)), (12, Sp.is (.bool false))] rfl (by kernel_rfl) (by kernel_rfl) (by kernel_rfl)
      ⟨xl rfl rfl rfl rfl rfl (tyVa hsa hpo (.slice ao ks.length cap) rfl) HB2_2 rfl, ox_call (Sp.is (.bool true)) [vval sa po (.slice ao ks.length cap)] rfl rfl trivial ⟨(oy rfl rfl), trivial⟩ (is_on fun W g => vvalid_B hsa hpo (hr.kn g) hv) (fun _ _ h => h) (enter_of Try.func45 (by kernel_rfl) rfl), ox_un rfl rfl trivial (oy rfl rfl) (fun _ => rn_not) (fun _ => rfl), trivial⟩ fun a19 w19 g19 st19 => ?_
    obtain ⟨hn19, hd19, e19_10, e19_11, e19_12, e19_5, e19_4, e19_3, e19_2, -⟩ := st19
    replace HB2_2 := rw_kn g19 HB2_2
    replace HB3_3 := rw_kn g19 HB3_3
    replace HB4_4 := rw_kn g19 HB4_4
    replace HB5_5 := rw_kn g19 HB5_5
    replace hr := hr.kn g19
    replace HG := grown_trans HG g19
    have sv19 : Sv 47 [{ target := .fn (.func 68) #[.pointer (some ⟨B4_4, 0, none⟩), .pointer (some ⟨B5_5, 0, none⟩)], args := #[] }] [(5, .pointer (some ⟨B5_5, 0, none⟩)), (4, .pointer (some ⟨B4_4, 0, none⟩)), (3, .pointer (some ⟨B3_3, 0, none⟩)), (2, .pointer (some ⟨B2_2, 0, none⟩)), (12, .bool false)] a19 := ⟨hn19, hd19, e19_5, e19_4, e19_3, e19_2, e19_12, trivial⟩
    refine tl_nil ?_
    refine k12 _ _ ?_
    refine cx_ifF sv19 rfl rfl ?_
    refine wp_skip ?_
    refine k11 _ _ ?_
    refine wp_seq_k fun K20 k20 => ?_
    refine wp_region_lit ?_
    refine sx_head (sv19.st w19) 2 [(14, Sp.is (vval sa po (.slice ao ks.length cap))), (15, Sp.cln w19.heap.size sa po ks.length (ks.map VK.p))] rfl (by kernel_rfl) (by kernel_rfl) (by kernel_rfl)
      ⟨xl rfl rfl rfl rfl rfl (tyVa hsa hpo (.slice ao ks.length cap) rfl) HB2_2 rfl, ox_call (Sp.cln w19.heap.size sa po ks.length (ks.map VK.p)) [vval sa po (.slice ao ks.length cap)] rfl rfl trivial ⟨(oy rfl rfl), trivial⟩ (cloned_on hsa hpo hr h64) (fun _ _ h => h) (enter_of Try.func69 (by kernel_rfl) rfl), trivial⟩ fun a21 w21 g21 st21 => ?_
    obtain ⟨hn21, hd21, e21_14, e21_15, e21_5, e21_4, e21_3, e21_2, e21_12, -⟩ := st21
    obtain ⟨A, ms, e21_15q, hmp, ow, kr, frA, frK⟩ := e21_15
    have fr_ow : ∀ k, fpS (.slice ((some ⟨A, 0, none⟩)) ks.length ks.length) k → w19.heap.size ≤ k := fun k hk => (Option.some.inj hk) ▸ frA
    have fr_kr : ∀ k, fpKs ms k → w19.heap.size ≤ k := fun k hk => (frK k hk).1
    have ap_kr_ow : ∀ k, fpKs ms k → ¬ fpS (.slice ((some ⟨A, 0, none⟩)) ks.length ks.length) k := fun k hk e => (frK k hk).2 (Option.some.inj e).symm
    have ap_ow_B2_2 := fr_ap fr_ow HB2_2
    have ap_ow_B3_3 := fr_ap fr_ow HB3_3
    have ap_ow_B4_4 := fr_ap fr_ow HB4_4
    have ap_ow_B5_5 := fr_ap fr_ow HB5_5
    have ap_hr_ow : ∀ k, fpK (.slice ao ks.length cap) ks k → ¬ fpS (.slice ((some ⟨A, 0, none⟩)) ks.length ks.length) k := fun k hzr hk => absurd (hr.lt k hzr) (Nat.not_lt.2 (fr_ow k hk))
    have lo_ow : ∀ k, fpS (.slice ((some ⟨A, 0, none⟩)) ks.length ks.length) k → w.heap.size ≤ k := fun k hk => Nat.le_trans HG.size (fr_ow k hk)
    have ap_kr_B2_2 := fr_ap fr_kr HB2_2
    have ap_kr_B3_3 := fr_ap fr_kr HB3_3
    have ap_kr_B4_4 := fr_ap fr_kr HB4_4
    have ap_kr_B5_5 := fr_ap fr_kr HB5_5
    have lo_kr : ∀ k, fpKs ms k → w.heap.size ≤ k := fun k hk => Nat.le_trans HG.size (fr_kr k hk)
    replace HB2_2 := rw_kn g21 HB2_2
    replace HB3_3 := rw_kn g21 HB3_3
    replace HB4_4 := rw_kn g21 HB4_4
    replace HB5_5 := rw_kn g21 HB5_5
    replace hr := hr.kn g21
    replace HG := grown_trans HG g21
    have sv21 : Sv 47 [{ target := .fn (.func 68) #[.pointer (some ⟨B4_4, 0, none⟩), .pointer (some ⟨B5_5, 0, none⟩)], args := #[] }] [(5, .pointer (some ⟨B5_5, 0, none⟩)), (4, .pointer (some ⟨B4_4, 0, none⟩)), (3, .pointer (some ⟨B3_3, 0, none⟩)), (2, .pointer (some ⟨B2_2, 0, none⟩)), (12, .bool false), (15, vval sa po (.slice ((some ⟨A, 0, none⟩)) ks.length ks.length))] a21 := ⟨hn21, hd21, e21_5, e21_4, e21_3, e21_2, e21_12, e21_15q, trivial⟩
    refine tl_storeW sv21 rfl rfl rfl rfl rfl rfl rfl (tyVa hsa hpo (.slice ((some ⟨A, 0, none⟩)) ks.length ks.length) rfl) HB2_2 (by first | rfl | simp [kcells, bv_length, zero32_len, hsa.1, hpo.1, hsa.1, hpo.1]) fun w22 g22 h22 => ?_
    replace HB3_3 := rw_st g22 HB3_3 ne_B3_3_B2_2
    replace HB4_4 := rw_st g22 HB4_4 ne_B4_4_B2_2
    replace HB5_5 := rw_st g22 HB5_5 ne_B5_5_B2_2
    replace hr := hr.offR g22 (fun k hk e => ap_hr_B2_2 k hk (Option.some.inj e).symm)
    replace ow := ow.offR g22 (fun k hk e => ap_ow_B2_2 k hk (Option.some.inj e).symm)
    replace kr := kr.offR g22 (fun k hk e => ap_kr_B2_2 k hk (Option.some.inj e).symm)
    replace HG := grown_newR HG g22 lo_B2_2
    replace HB2_2 := h22
    have sv23 : Sv 47 [{ target := .fn (.func 68) #[.pointer (some ⟨B4_4, 0, none⟩), .pointer (some ⟨B5_5, 0, none⟩)], args := #[] }] [(5, .pointer (some ⟨B5_5, 0, none⟩)), (4, .pointer (some ⟨B4_4, 0, none⟩)), (3, .pointer (some ⟨B3_3, 0, none⟩)), (2, .pointer (some ⟨B2_2, 0, none⟩)), (12, .bool false)] a21 := ⟨sv21.1, sv21.2.1, sv21.2.2.1, sv21.2.2.2.1, sv21.2.2.2.2.1, sv21.2.2.2.2.2.1, sv21.2.2.2.2.2.2.1, trivial⟩
    refine tl_nil ?_
    refine k20 _ _ ?_
    refine wp_seq_k fun K24 k24 => ?_
    have hml : ks.length = ms.length := Own.rdk ow
    cases hf : fnd (ks.map VK.p) o
    · refine wp_region_lit ?_
      refine sx_head (sv23.st w22) 6 [(17, Sp.is (vval sa po (.slice ((some ⟨A, 0, none⟩)) ks.length ks.length))), (18, Sp.is (dval o)), (19, Sp.is (.tuple #[.int .i64 ((i : Int)), .bool false])), (16, Sp.is (.tuple #[.int .i64 ((i : Int)), .bool false])), (20, Sp.is (.int .i64 ((i : Int)))), (21, Sp.is (.bool false))] rfl (by kernel_rfl) (by kernel_rfl) (by kernel_rfl)
        ⟨xl rfl rfl rfl rfl rfl (tyVa hsa hpo (.slice ((some ⟨A, 0, none⟩)) ks.length ks.length) rfl) HB2_2 rfl, xl rfl rfl rfl rfl rfl (tyD o ho.1) HB3_3 rfl, ox_call (Sp.is (.tuple #[.int .i64 ((i : Int)), .bool false])) [vval sa po (.slice ((some ⟨A, 0, none⟩)) ks.length ks.length), dval o] rfl rfl trivial ⟨(oy rfl rfl), (oy rfl rfl), trivial⟩ (is_on fun W g => find_own hsa hpo ho hmp (ow.kn g) (kr.1.kn g) hv hf hi) (fun _ _ h => h) (enter_of Try.func70 (by kernel_rfl) rfl), xm rfl rfl rfl rfl rfl, ox_extract rfl rfl rfl trivial (fun _ _ h => ⟨_, _, h, rfl, rfl⟩), ox_extract rfl rfl rfl trivial (fun _ _ h => ⟨_, _, h, rfl, rfl⟩), trivial⟩ fun a25 w25 g25 st25 => ?_
      obtain ⟨hn25, hd25, e25_17, e25_18, e25_19, e25_16, e25_20, e25_21, e25_5, e25_4, e25_3, e25_2, e25_12, -⟩ := st25
      replace HB2_2 := rw_kn g25 HB2_2
      replace HB3_3 := rw_kn g25 HB3_3
      replace HB4_4 := rw_kn g25 HB4_4
      replace HB5_5 := rw_kn g25 HB5_5
      replace hr := hr.kn g25
      replace ow := ow.kn g25
      replace kr := kr.kn g25
      replace HG := grown_trans HG g25
      have sv25 : Sv 47 [{ target := .fn (.func 68) #[.pointer (some ⟨B4_4, 0, none⟩), .pointer (some ⟨B5_5, 0, none⟩)], args := #[] }] [(5, .pointer (some ⟨B5_5, 0, none⟩)), (4, .pointer (some ⟨B4_4, 0, none⟩)), (3, .pointer (some ⟨B3_3, 0, none⟩)), (2, .pointer (some ⟨B2_2, 0, none⟩)), (12, .bool false), (20, .int .i64 ((i : Int))), (21, .bool false)] a25 := ⟨hn25, hd25, e25_5, e25_4, e25_3, e25_2, e25_12, e25_20, e25_21, trivial⟩
      refine tl_assign sv25 rfl (.inl rfl) rfl rfl rfl rfl fun a26 sv26 => ?_
      replace sv26 : Sv 47 [{ target := .fn (.func 68) #[.pointer (some ⟨B4_4, 0, none⟩), .pointer (some ⟨B5_5, 0, none⟩)], args := #[] }] [(6, .int .i64 ((i : Int))), (5, .pointer (some ⟨B5_5, 0, none⟩)), (4, .pointer (some ⟨B4_4, 0, none⟩)), (3, .pointer (some ⟨B3_3, 0, none⟩)), (2, .pointer (some ⟨B2_2, 0, none⟩)), (12, .bool false), (20, .int .i64 ((i : Int))), (21, .bool false)] a26 := sv26
      refine tl_assign sv26 rfl (.inl rfl) rfl rfl rfl rfl fun a27 sv27 => ?_
      replace sv27 : Sv 47 [{ target := .fn (.func 68) #[.pointer (some ⟨B4_4, 0, none⟩), .pointer (some ⟨B5_5, 0, none⟩)], args := #[] }] [(7, .bool false), (6, .int .i64 ((i : Int))), (5, .pointer (some ⟨B5_5, 0, none⟩)), (4, .pointer (some ⟨B4_4, 0, none⟩)), (3, .pointer (some ⟨B3_3, 0, none⟩)), (2, .pointer (some ⟨B2_2, 0, none⟩)), (12, .bool false), (20, .int .i64 ((i : Int))), (21, .bool false)] a27 := sv27
      have sv28 : Sv 47 [{ target := .fn (.func 68) #[.pointer (some ⟨B4_4, 0, none⟩), .pointer (some ⟨B5_5, 0, none⟩)], args := #[] }] [(7, .bool false), (6, .int .i64 ((i : Int))), (5, .pointer (some ⟨B5_5, 0, none⟩)), (4, .pointer (some ⟨B4_4, 0, none⟩)), (3, .pointer (some ⟨B3_3, 0, none⟩)), (2, .pointer (some ⟨B2_2, 0, none⟩)), (12, .bool false)] a27 := ⟨sv27.1, sv27.2.1, sv27.2.2.1, sv27.2.2.2.1, sv27.2.2.2.2.1, sv27.2.2.2.2.2.1, sv27.2.2.2.2.2.2.1, sv27.2.2.2.2.2.2.2.1, sv27.2.2.2.2.2.2.2.2.1, trivial⟩
      refine tl_nil ?_
      refine k24 _ _ ?_
      refine wp_seq_k fun K29 k29 => ?_
      refine wp_seq_k fun K30 k30 => ?_
      refine wp_region_lit ?_
      refine sx_head (sv28.st w25) 1 [(22, Sp.is (.bool false))] rfl (by kernel_rfl) (by kernel_rfl) (by kernel_rfl)
        ⟨xm rfl rfl rfl rfl rfl, trivial⟩ fun a31 w31 g31 st31 => ?_
      obtain ⟨hn31, hd31, e31_22, e31_7, e31_6, e31_5, e31_4, e31_3, e31_2, e31_12, -⟩ := st31
      replace HB2_2 := rw_kn g31 HB2_2
      replace HB3_3 := rw_kn g31 HB3_3
      replace HB4_4 := rw_kn g31 HB4_4
      replace HB5_5 := rw_kn g31 HB5_5
      replace hr := hr.kn g31
      replace ow := ow.kn g31
      replace kr := kr.kn g31
      replace HG := grown_trans HG g31
      have sv31 : Sv 47 [{ target := .fn (.func 68) #[.pointer (some ⟨B4_4, 0, none⟩), .pointer (some ⟨B5_5, 0, none⟩)], args := #[] }] [(7, .bool false), (6, .int .i64 ((i : Int))), (5, .pointer (some ⟨B5_5, 0, none⟩)), (4, .pointer (some ⟨B4_4, 0, none⟩)), (3, .pointer (some ⟨B3_3, 0, none⟩)), (2, .pointer (some ⟨B2_2, 0, none⟩)), (12, .bool false), (22, .bool false)] a31 := ⟨hn31, hd31, e31_7, e31_6, e31_5, e31_4, e31_3, e31_2, e31_12, e31_22, trivial⟩
      refine tl_nil ?_
      refine k30 _ _ ?_
      refine cx_ifF sv31 rfl rfl ?_
      refine wp_skip ?_
      refine k29 _ _ ?_
      refine wp_seq_k fun K32 k32 => ?_
      refine wp_seq_k fun K33 k33 => ?_
      by_cases hfull : 64 ≤ ks.length
      · refine wp_region_lit ?_
        refine sx_head (sv31.st w31) 4 [(24, Sp.is (.pointer (some ⟨B2_2, 64, none⟩))), (25, Sp.is (.slice ((some ⟨A, 0, none⟩)) ks.length ks.length)), (26, Sp.is (.int .i64 ((ks.length : Nat)))), (27, Sp.is (.bool true))] rfl (by kernel_rfl) (by kernel_rfl) (by kernel_rfl)
          ⟨xf rfl rfl rfl rfl rfl (fun _ => by kernel_rfl) rfl, xp (i := 2) rfl rfl rfl rfl rfl (tyKs (.slice ((some ⟨A, 0, none⟩)) ks.length ks.length) rfl) HB2_2 rfl (by simp [bv_length, zero32_len, hsa.1, hpo.1]) rfl, ox_len (Try.underlying56) rfl rfl trivial (oy rfl rfl) (fun _ => rfl), ox_bin rfl rfl trivial (oy rfl rfl) rfl (fun _ => rn_geq (decide_eq_true (by omega))) (fun _ => rfl), trivial⟩ fun a34 w34 g34 st34 => ?_
        obtain ⟨hn34, hd34, e34_24, e34_25, e34_26, e34_27, e34_7, e34_6, e34_5, e34_4, e34_3, e34_2, e34_12, e34_22, -⟩ := st34
        replace HB2_2 := rw_kn g34 HB2_2
        replace HB3_3 := rw_kn g34 HB3_3
        replace HB4_4 := rw_kn g34 HB4_4
        replace HB5_5 := rw_kn g34 HB5_5
        replace hr := hr.kn g34
        replace ow := ow.kn g34
        replace kr := kr.kn g34
        replace HG := grown_trans HG g34
        have sv34 : Sv 47 [{ target := .fn (.func 68) #[.pointer (some ⟨B4_4, 0, none⟩), .pointer (some ⟨B5_5, 0, none⟩)], args := #[] }] [(7, .bool false), (6, .int .i64 ((i : Int))), (5, .pointer (some ⟨B5_5, 0, none⟩)), (4, .pointer (some ⟨B4_4, 0, none⟩)), (3, .pointer (some ⟨B3_3, 0, none⟩)), (2, .pointer (some ⟨B2_2, 0, none⟩)), (12, .bool false), (22, .bool false), (27, .bool true)] a34 := ⟨hn34, hd34, e34_7, e34_6, e34_5, e34_4, e34_3, e34_2, e34_12, e34_22, e34_27, trivial⟩
        refine tl_nil ?_
        refine k33 _ _ ?_
        refine cx_ifT sv34 rfl rfl ?_
        refine wp_seq_k fun K35 k35 => ?_
        refine wp_region_lit ?_
        refine sx_head (sv34.st w34) 1 [(28, Sp.is (vval zero32 zero32 (.slice none 0 0)))] rfl (by kernel_rfl) (by kernel_rfl) (by kernel_rfl)
          ⟨ox_build (vs := []) rfl rfl trivial trivial (fun _ => bV0 _) (fun _ => rfl), trivial⟩ fun a36 w36 g36 st36 => ?_
        obtain ⟨hn36, hd36, e36_28, e36_7, e36_6, e36_5, e36_4, e36_3, e36_2, e36_12, e36_22, e36_27, -⟩ := st36
        replace HB2_2 := rw_kn g36 HB2_2
        replace HB3_3 := rw_kn g36 HB3_3
        replace HB4_4 := rw_kn g36 HB4_4
        replace HB5_5 := rw_kn g36 HB5_5
        replace hr := hr.kn g36
        replace ow := ow.kn g36
        replace kr := kr.kn g36
        replace HG := grown_trans HG g36
        have sv36 : Sv 47 [{ target := .fn (.func 68) #[.pointer (some ⟨B4_4, 0, none⟩), .pointer (some ⟨B5_5, 0, none⟩)], args := #[] }] [(7, .bool false), (6, .int .i64 ((i : Int))), (5, .pointer (some ⟨B5_5, 0, none⟩)), (4, .pointer (some ⟨B4_4, 0, none⟩)), (3, .pointer (some ⟨B3_3, 0, none⟩)), (2, .pointer (some ⟨B2_2, 0, none⟩)), (12, .bool false), (22, .bool false), (27, .bool true), (28, vval zero32 zero32 (.slice none 0 0))] a36 := ⟨hn36, hd36, e36_7, e36_6, e36_5, e36_4, e36_3, e36_2, e36_12, e36_22, e36_27, e36_28, trivial⟩
        refine tl_storeW sv36 rfl rfl rfl rfl rfl rfl rfl (tyVa zero32_dg zero32_dg (.slice none 0 0) rfl) HB4_4 (by first | rfl | simp [kcells, bv_length, zero32_len, zero32_dg.1, zero32_dg.1]) fun w37 g37 h37 => ?_
        replace HB2_2 := rw_st g37 HB2_2 (Ne.symm ne_B4_4_B2_2)
        replace HB3_3 := rw_st g37 HB3_3 (Ne.symm ne_B4_4_B3_3)
        replace HB5_5 := rw_st g37 HB5_5 ne_B5_5_B4_4
        replace hr := hr.offR g37 (fun k hk e => ap_hr_B4_4 k hk (Option.some.inj e).symm)
        replace ow := ow.offR g37 (fun k hk e => ap_ow_B4_4 k hk (Option.some.inj e).symm)
        replace kr := kr.offR g37 (fun k hk e => ap_kr_B4_4 k hk (Option.some.inj e).symm)
        replace HG := grown_newR HG g37 lo_B4_4
        replace HB4_4 := h37
        refine tl_storeW sv36 rfl rfl rfl rfl rfl rfl rfl (tyE 8) HB5_5 rfl fun w38 g38 h38 => ?_
        replace HB2_2 := rw_st g38 HB2_2 (Ne.symm ne_B5_5_B2_2)
        replace HB3_3 := rw_st g38 HB3_3 (Ne.symm ne_B5_5_B3_3)
        replace HB4_4 := rw_st g38 HB4_4 (Ne.symm ne_B5_5_B4_4)
        replace hr := hr.offR g38 (fun k hk e => ap_hr_B5_5 k hk (Option.some.inj e).symm)
        replace ow := ow.offR g38 (fun k hk e => ap_ow_B5_5 k hk (Option.some.inj e).symm)
        replace kr := kr.offR g38 (fun k hk e => ap_kr_B5_5 k hk (Option.some.inj e).symm)
        replace HG := grown_newR HG g38 lo_B5_5
        replace HB5_5 := h38
        have sv39 : Sv 47 [{ target := .fn (.func 68) #[.pointer (some ⟨B4_4, 0, none⟩), .pointer (some ⟨B5_5, 0, none⟩)], args := #[] }] [(7, .bool false), (6, .int .i64 ((i : Int))), (5, .pointer (some ⟨B5_5, 0, none⟩)), (4, .pointer (some ⟨B4_4, 0, none⟩)), (3, .pointer (some ⟨B3_3, 0, none⟩)), (2, .pointer (some ⟨B2_2, 0, none⟩)), (12, .bool false), (22, .bool false), (27, .bool true)] a36 := ⟨sv36.1, sv36.2.1, sv36.2.2.1, sv36.2.2.2.1, sv36.2.2.2.2.1, sv36.2.2.2.2.2.1, sv36.2.2.2.2.2.2.1, sv36.2.2.2.2.2.2.2.1, sv36.2.2.2.2.2.2.2.2.1, sv36.2.2.2.2.2.2.2.2.2.1, sv36.2.2.2.2.2.2.2.2.2.2.1, trivial⟩
        refine tl_nil ?_
        refine k35 _ _ ?_
        refine wp_ret ?_
        repeat refine then_ret ?_
        refine cx_retD (fn := Try.f36) sv39 (res_cell2 (p := 4) (q := 5) Try.results36 sv39 rfl rfl rfl rfl (tyVa zero32_dg zero32_dg (.slice none 0 0) rfl) (tyE 8) HB4_4 HB5_5) (inv_of Try.func68 (by kernel_rfl) rfl _ _) (recEnsure_walk _ _ _) ?_
        exact VRes.zero (by unfold ensO; rw [if_pos hv, if_neg (by rw [hf]; simp), if_pos (by simpa using hfull)]) HG
      · refine wp_region_lit ?_
        refine sx_head (sv31.st w31) 4 [(24, Sp.is (.pointer (some ⟨B2_2, 64, none⟩))), (25, Sp.is (.slice ((some ⟨A, 0, none⟩)) ks.length ks.length)), (26, Sp.is (.int .i64 ((ks.length : Nat)))), (27, Sp.is (.bool false))] rfl (by kernel_rfl) (by kernel_rfl) (by kernel_rfl)
          ⟨xf rfl rfl rfl rfl rfl (fun _ => by kernel_rfl) rfl, xp (i := 2) rfl rfl rfl rfl rfl (tyKs (.slice ((some ⟨A, 0, none⟩)) ks.length ks.length) rfl) HB2_2 rfl (by simp [bv_length, zero32_len, hsa.1, hpo.1]) rfl, ox_len (Try.underlying56) rfl rfl trivial (oy rfl rfl) (fun _ => rfl), ox_bin rfl rfl trivial (oy rfl rfl) rfl (fun _ => rn_geq (decide_eq_false (by omega))) (fun _ => rfl), trivial⟩ fun a40 w40 g40 st40 => ?_
        obtain ⟨hn40, hd40, e40_24, e40_25, e40_26, e40_27, e40_7, e40_6, e40_5, e40_4, e40_3, e40_2, e40_12, e40_22, -⟩ := st40
        replace HB2_2 := rw_kn g40 HB2_2
        replace HB3_3 := rw_kn g40 HB3_3
        replace HB4_4 := rw_kn g40 HB4_4
        replace HB5_5 := rw_kn g40 HB5_5
        replace hr := hr.kn g40
        replace ow := ow.kn g40
        replace kr := kr.kn g40
        replace HG := grown_trans HG g40
        have sv40 : Sv 47 [{ target := .fn (.func 68) #[.pointer (some ⟨B4_4, 0, none⟩), .pointer (some ⟨B5_5, 0, none⟩)], args := #[] }] [(7, .bool false), (6, .int .i64 ((i : Int))), (5, .pointer (some ⟨B5_5, 0, none⟩)), (4, .pointer (some ⟨B4_4, 0, none⟩)), (3, .pointer (some ⟨B3_3, 0, none⟩)), (2, .pointer (some ⟨B2_2, 0, none⟩)), (12, .bool false), (22, .bool false), (27, .bool false)] a40 := ⟨hn40, hd40, e40_7, e40_6, e40_5, e40_4, e40_3, e40_2, e40_12, e40_22, e40_27, trivial⟩
        refine tl_nil ?_
        refine k33 _ _ ?_
        refine cx_ifF sv40 rfl rfl ?_
        refine wp_skip ?_
        refine k32 _ _ ?_
        refine wp_seq_k fun K41 k41 => ?_
        refine rx_tail (sv40.st w40) (by kernel_rfl) 7 [(29, Sp.is (dval o)), (30, Sp.is (.pointer (some ⟨B2_2, 32, none⟩))), (31, Sp.is (dval po)), (32, Sp.is (dval ((kd 275 po)))), (33, Sp.ct w40.heap.size T), (34, Sp.ck w40.heap.size o T), (8, Sp.new w40.heap.size (([bv zero32, [.slice none 0 0]].flatten)) 65)] rfl (by kernel_rfl) (by kernel_rfl) (by kernel_rfl) [] (by kernel_rfl)
          ⟨xl rfl rfl rfl rfl rfl (tyD o ho.1) HB3_3 rfl, xf rfl rfl rfl rfl rfl (fun _ => by kernel_rfl) rfl, xp (i := 1) rfl rfl rfl rfl rfl (tyD po hpo.1) HB2_2 rfl (by simp [bv_length, zero32_len, hsa.1, hpo.1]) rfl, ox_call (Sp.is (dval ((kd 275 po)))) [.int .u64 275, dval po, .slice none 0 0] rfl rfl trivial ⟨rfl, (oy rfl rfl), rfl, trivial⟩ (is_on fun W g => keyed_c (n := 275) (by decide) rfl hpo W) (fun _ _ h => h) (enter_of Try.func67 (by kernel_rfl) rfl), ox_call (Sp.ct w40.heap.size T) [dval ((kd 275 po))] rfl rfl trivial ⟨(oy rfl rfl), trivial⟩ (newt_on (kd_dg _ _) hT) (fun _ _ h => h) (enter_of Try.func21 (by kernel_rfl) rfl), ox_buildY rfl rfl trivial rfl (fun W _ av h => match av, h with | [u, t], ⟨h1, h2, _⟩ => ck_of ho h1 h2), ox_alloc rfl trivial (Nat.le_refl _) (fun a w => by kernel_rfl) (fun _ _ h => h), trivial⟩ trivial
          [8] (by kernel_rfl) ⟨Sp.new_lt, trivial⟩ ⟨.inl rfl, .inl rfl, .inl rfl, .inl rfl, .inl rfl, .inl rfl, .inr ⟨rfl, (([bv zero32, [.slice none 0 0]].flatten)).toArray, 65, fun a w => by kernel_rfl⟩, trivial⟩ (by kernel_rfl) fun a42 w42 g42 st42 nd42 => ?_
        obtain ⟨hn42, hd42, e42_29, e42_30, e42_31, e42_32, e42_33, e42_34, e42_8, e42_7, e42_6, e42_5, e42_4, e42_3, e42_2, e42_12, e42_22, e42_27, -⟩ := st42
        obtain ⟨y, e42_34q, hyo, hyl, rt, frB⟩ := e42_34
        obtain ⟨B8_42, e42_8q, ge_B8_42, HB8_42⟩ := e42_8
        have ne_B8_42_B2_2 := nh_ne HB2_2 ge_B8_42
        have ne_B8_42_B3_3 := nh_ne HB3_3 ge_B8_42
        have ne_B8_42_B4_4 := nh_ne HB4_4 ge_B8_42
        have ne_B8_42_B5_5 := nh_ne HB5_5 ge_B8_42
        have lo_B8_42 := nh_lo HG ge_B8_42
        have ap_hr_B8_42 := nh_ap (hr.lt) ge_B8_42
        have ap_ow_B8_42 := nh_ap (Own.ltS ow) ge_B8_42
        have ap_kr_B8_42 := nh_ap (kr.lt) ge_B8_42
        have ap_rt_B2_2 := fr_ap frB HB2_2
        have ap_rt_B3_3 := fr_ap frB HB3_3
        have ap_rt_B4_4 := fr_ap frB HB4_4
        have ap_rt_B5_5 := fr_ap frB HB5_5
        have ap_rt_ow : ∀ k, fpS (VK.s y) k → ¬ fpS (.slice ((some ⟨A, 0, none⟩)) ks.length ks.length) k := fun k hk hzr => absurd (Own.ltS ow k hzr) (Nat.not_lt.2 (frB k hk))
        have lo_rt : ∀ k, fpS (VK.s y) k → w.heap.size ≤ k := fun k hk => Nat.le_trans HG.size (frB k hk)
        replace HB2_2 := rw_kn g42 HB2_2
        replace HB3_3 := rw_kn g42 HB3_3
        replace HB4_4 := rw_kn g42 HB4_4
        replace HB5_5 := rw_kn g42 HB5_5
        replace hr := hr.kn g42
        replace ow := ow.kn g42
        replace kr := kr.kn g42
        replace HG := grown_trans HG g42
        have ap_rt_B8_42 := rt.2.ap HB8_42 (by decide)
        have sv42 : Sv 47 [{ target := .fn (.func 68) #[.pointer (some ⟨B4_4, 0, none⟩), .pointer (some ⟨B5_5, 0, none⟩)], args := #[] }] [(7, .bool false), (6, .int .i64 ((i : Int))), (5, .pointer (some ⟨B5_5, 0, none⟩)), (4, .pointer (some ⟨B4_4, 0, none⟩)), (3, .pointer (some ⟨B3_3, 0, none⟩)), (2, .pointer (some ⟨B2_2, 0, none⟩)), (12, .bool false), (22, .bool false), (27, .bool false), (34, kval y), (8, .pointer (some ⟨B8_42, 0, none⟩))] a42 := ⟨hn42, hd42, e42_7, e42_6, e42_5, e42_4, e42_3, e42_2, e42_12, e42_22, e42_27, e42_34q, e42_8q, trivial⟩
        refine tl_storeW sv42 rfl rfl rfl rfl rfl rfl rfl (tyK y) HB8_42 (by first | rfl | simp [kcells, bv_length, zero32_len, y.ho.1]) fun w43 g43 h43 => ?_
        replace HB2_2 := rw_st g43 HB2_2 (Ne.symm ne_B8_42_B2_2)
        replace HB3_3 := rw_st g43 HB3_3 (Ne.symm ne_B8_42_B3_3)
        replace HB4_4 := rw_st g43 HB4_4 (Ne.symm ne_B8_42_B4_4)
        replace HB5_5 := rw_st g43 HB5_5 (Ne.symm ne_B8_42_B5_5)
        replace hr := hr.offR g43 (fun k hk e => ap_hr_B8_42 k hk (Option.some.inj e).symm)
        replace ow := ow.offR g43 (fun k hk e => ap_ow_B8_42 k hk (Option.some.inj e).symm)
        replace kr := kr.offR g43 (fun k hk e => ap_kr_B8_42 k hk (Option.some.inj e).symm)
        replace rt := rt.offR g43 (fun k hk e => ap_rt_B8_42 k hk (Option.some.inj e).symm)
        replace HG := grown_newR HG g43 lo_B8_42
        replace HB8_42 := h43
        have sv44 : Sv 47 [{ target := .fn (.func 68) #[.pointer (some ⟨B4_4, 0, none⟩), .pointer (some ⟨B5_5, 0, none⟩)], args := #[] }] [(7, .bool false), (6, .int .i64 ((i : Int))), (5, .pointer (some ⟨B5_5, 0, none⟩)), (4, .pointer (some ⟨B4_4, 0, none⟩)), (3, .pointer (some ⟨B3_3, 0, none⟩)), (2, .pointer (some ⟨B2_2, 0, none⟩)), (12, .bool false), (22, .bool false), (27, .bool false), (8, .pointer (some ⟨B8_42, 0, none⟩))] a42 := ⟨sv42.1, sv42.2.1, sv42.2.2.1, sv42.2.2.2.1, sv42.2.2.2.2.1, sv42.2.2.2.2.2.1, sv42.2.2.2.2.2.2.1, sv42.2.2.2.2.2.2.2.1, sv42.2.2.2.2.2.2.2.2.1, sv42.2.2.2.2.2.2.2.2.2.1, sv42.2.2.2.2.2.2.2.2.2.2.1, sv42.2.2.2.2.2.2.2.2.2.2.2.2.1, trivial⟩
        refine tl_nil ?_
        refine k41 _ _ ?_
        refine wp_seq_k fun K45 k45 => ?_
        refine wp_region_lit ?_
        refine sx_head (sv44.st w43) 5 [(35, Sp.is (.pointer (some ⟨B2_2, 64, none⟩))), (36, Sp.is (.slice ((some ⟨A, 0, none⟩)) ks.length ks.length)), (37, Sp.is (.int .i64 ((i : Int)))), (38, Sp.is (kval y)), (39, Sp.lit1 w43.heap.size 65 (kcells y))] rfl (by kernel_rfl) (by kernel_rfl) (by kernel_rfl)
          ⟨xf rfl rfl rfl rfl rfl (fun _ => by kernel_rfl) rfl, xp (i := 2) rfl rfl rfl rfl rfl (tyKs (.slice ((some ⟨A, 0, none⟩)) ks.length ks.length) rfl) HB2_2 rfl (by simp [bv_length, zero32_len, hsa.1, hpo.1]) rfl, xm rfl rfl rfl rfl rfl, xl rfl rfl rfl rfl rfl (tyK y) HB8_42 rfl, ox_lit1 rfl rfl trivial (Nat.le_refl _) rfl (fun W hw v h => match v, h with | _, ⟨rfl, _⟩ => ⟨kcells y, bS1k y W, fun w' _ hh => ⟨_, rfl, hw.size, hh⟩⟩), trivial⟩ fun a46 w46 g46 st46 => ?_
        obtain ⟨hn46, hd46, e46_35, e46_36, e46_37, e46_38, e46_39, e46_7, e46_6, e46_5, e46_4, e46_3, e46_2, e46_12, e46_22, e46_27, e46_8, -⟩ := st46
        obtain ⟨V, e46_39q, geV, HV⟩ := e46_39
        have ne_V_B2_2 : V ≠ B2_2 := Nat.ne_of_gt (Nat.lt_of_lt_of_le (Array.getElem?_eq_some_iff.1 HB2_2).1 geV)
        have ne_V_B3_3 : V ≠ B3_3 := Nat.ne_of_gt (Nat.lt_of_lt_of_le (Array.getElem?_eq_some_iff.1 HB3_3).1 geV)
        have ne_V_B4_4 : V ≠ B4_4 := Nat.ne_of_gt (Nat.lt_of_lt_of_le (Array.getElem?_eq_some_iff.1 HB4_4).1 geV)
        have ne_V_B5_5 : V ≠ B5_5 := Nat.ne_of_gt (Nat.lt_of_lt_of_le (Array.getElem?_eq_some_iff.1 HB5_5).1 geV)
        have ne_V_B8_42 : V ≠ B8_42 := Nat.ne_of_gt (Nat.lt_of_lt_of_le (Array.getElem?_eq_some_iff.1 HB8_42).1 geV)
        have lo_V : w.heap.size ≤ V := Nat.le_trans HG.size geV
        have ap_hr_V := nh_ap (hr.lt) geV
        have ap_ow_V := nh_ap (Own.ltS ow) geV
        have ap_kr_V := nh_ap (kr.lt) geV
        have ap_rt_V := nh_ap (rt.lt) geV
        replace HB2_2 := rw_kn g46 HB2_2
        replace HB3_3 := rw_kn g46 HB3_3
        replace HB4_4 := rw_kn g46 HB4_4
        replace HB5_5 := rw_kn g46 HB5_5
        replace HB8_42 := rw_kn g46 HB8_42
        replace hr := hr.kn g46
        replace ow := ow.kn g46
        replace kr := kr.kn g46
        replace rt := rt.kn g46
        replace HG := grown_trans HG g46
        have sv46 : Sv 47 [{ target := .fn (.func 68) #[.pointer (some ⟨B4_4, 0, none⟩), .pointer (some ⟨B5_5, 0, none⟩)], args := #[] }] [(7, .bool false), (6, .int .i64 ((i : Int))), (5, .pointer (some ⟨B5_5, 0, none⟩)), (4, .pointer (some ⟨B4_4, 0, none⟩)), (3, .pointer (some ⟨B3_3, 0, none⟩)), (2, .pointer (some ⟨B2_2, 0, none⟩)), (12, .bool false), (22, .bool false), (27, .bool false), (8, .pointer (some ⟨B8_42, 0, none⟩)), (36, .slice ((some ⟨A, 0, none⟩)) ks.length ks.length), (37, .int .i64 ((i : Int))), (39, .slice ((some ⟨V, 0, none⟩)) 1 1)] a46 := ⟨hn46, hd46, e46_7, e46_6, e46_5, e46_4, e46_3, e46_2, e46_12, e46_22, e46_27, e46_8, e46_36, e46_37, e46_39q, trivial⟩
        refine sx_head (sv46.st w46) 2 [(40, Sp.insr w46.heap.size (ks.length + 1) (ms.take i ++ y :: ms.drop i)), (41, Sp.is (.pointer (some ⟨B2_2, 64, none⟩)))] rfl (by kernel_rfl) (by kernel_rfl) (by kernel_rfl)
          ⟨ox_call (Sp.insr w46.heap.size (ks.length + 1) (ms.take i ++ y :: ms.drop i)) [.slice ((some ⟨A, 0, none⟩)) ks.length ks.length, .int .i64 ((i : Int)), .slice ((some ⟨V, 0, none⟩)) 1 1] rfl rfl trivial ⟨(oy rfl rfl), (oy rfl rfl), (oy rfl rfl), trivial⟩ (ins_on hml ow HV hin h64) (fun _ _ h => h) (enter_of Try.func71 (by kernel_rfl) rfl), xf rfl rfl rfl rfl rfl (fun _ => by kernel_rfl) rfl, trivial⟩ fun a47 w47 g47 st47 => ?_
        obtain ⟨hn47, hd47, e47_40, e47_41, e47_7, e47_6, e47_5, e47_4, e47_3, e47_2, e47_12, e47_22, e47_27, e47_8, e47_36, e47_37, e47_39, -⟩ := st47
        obtain ⟨ai, ci, e47_40q, oi, fri⟩ := e47_40
        have ap_oi_B2_2 := fr_ap fri HB2_2
        have ap_oi_B3_3 := fr_ap fri HB3_3
        have ap_oi_B4_4 := fr_ap fri HB4_4
        have ap_oi_B5_5 := fr_ap fri HB5_5
        have ap_oi_B8_42 := fr_ap fri HB8_42
        have ap_oi_V := fr_ap fri HV
        have ap_hr_oi : ∀ k, fpK (.slice ao ks.length cap) ks k → ¬ fpS (.slice ai (ks.length + 1) ci) k := fun k hzr hk => absurd (hr.lt k hzr) (Nat.not_lt.2 (fri k hk))
        have ap_oi_ow : ∀ k, fpS (.slice ai (ks.length + 1) ci) k → ¬ fpS (.slice ((some ⟨A, 0, none⟩)) ks.length ks.length) k := fun k hk hzr => absurd (Own.ltS ow k hzr) (Nat.not_lt.2 (fri k hk))
        have ap_ow_oi : ∀ k, fpS (.slice ((some ⟨A, 0, none⟩)) ks.length ks.length) k → ¬ fpS (.slice ai (ks.length + 1) ci) k := fun k hzr hk => absurd (Own.ltS ow k hzr) (Nat.not_lt.2 (fri k hk))
        have ap_kr_oi : ∀ k, fpKs ms k → ¬ fpS (.slice ai (ks.length + 1) ci) k := fun k hzr hk => absurd (kr.lt k hzr) (Nat.not_lt.2 (fri k hk))
        have ap_rt_oi : ∀ k, fpS (VK.s y) k → ¬ fpS (.slice ai (ks.length + 1) ci) k := fun k hzr hk => absurd (rt.lt k hzr) (Nat.not_lt.2 (fri k hk))
        have lo_oi : ∀ k, fpS (.slice ai (ks.length + 1) ci) k → w.heap.size ≤ k := fun k hk => Nat.le_trans HG.size (fri k hk)
        replace HB2_2 := rw_kn g47 HB2_2
        replace HB3_3 := rw_kn g47 HB3_3
        replace HB4_4 := rw_kn g47 HB4_4
        replace HB5_5 := rw_kn g47 HB5_5
        replace HB8_42 := rw_kn g47 HB8_42
        replace HV := rw_kn g47 HV
        replace hr := hr.kn g47
        replace ow := ow.kn g47
        replace kr := kr.kn g47
        replace rt := rt.kn g47
        replace HG := grown_trans HG g47
        have sv47 : Sv 47 [{ target := .fn (.func 68) #[.pointer (some ⟨B4_4, 0, none⟩), .pointer (some ⟨B5_5, 0, none⟩)], args := #[] }] [(7, .bool false), (6, .int .i64 ((i : Int))), (5, .pointer (some ⟨B5_5, 0, none⟩)), (4, .pointer (some ⟨B4_4, 0, none⟩)), (3, .pointer (some ⟨B3_3, 0, none⟩)), (2, .pointer (some ⟨B2_2, 0, none⟩)), (12, .bool false), (22, .bool false), (27, .bool false), (8, .pointer (some ⟨B8_42, 0, none⟩)), (36, .slice ((some ⟨A, 0, none⟩)) ks.length ks.length), (37, .int .i64 ((i : Int))), (39, .slice ((some ⟨V, 0, none⟩)) 1 1), (40, .slice ai (ks.length + 1) ci), (41, .pointer (some ⟨B2_2, 64, none⟩))] a47 := ⟨hn47, hd47, e47_7, e47_6, e47_5, e47_4, e47_3, e47_2, e47_12, e47_22, e47_27, e47_8, e47_36, e47_37, e47_39, e47_40q, e47_41, trivial⟩
        refine tl_storeP (L := [bv sa, bv po, [.slice ((some ⟨A, 0, none⟩)) ks.length ks.length]]) (i := 2) sv47 rfl rfl rfl rfl rfl rfl rfl (tyKs (.slice ai (ks.length + 1) ci) rfl) HB2_2 rfl (by simp [bv_length, zero32_len, hsa.1, hpo.1]) rfl fun w48 g48 h48 => ?_
        replace HB3_3 := rw_st g48 HB3_3 ne_B3_3_B2_2
        replace HB4_4 := rw_st g48 HB4_4 ne_B4_4_B2_2
        replace HB5_5 := rw_st g48 HB5_5 ne_B5_5_B2_2
        replace HB8_42 := rw_st g48 HB8_42 ne_B8_42_B2_2
        replace HV := rw_st g48 HV ne_V_B2_2
        replace hr := hr.offR g48 (fun k hk e => ap_hr_B2_2 k hk (Option.some.inj e).symm)
        replace ow := ow.offR g48 (fun k hk e => ap_ow_B2_2 k hk (Option.some.inj e).symm)
        replace kr := kr.offR g48 (fun k hk e => ap_kr_B2_2 k hk (Option.some.inj e).symm)
        replace rt := rt.offR g48 (fun k hk e => ap_rt_B2_2 k hk (Option.some.inj e).symm)
        replace oi := oi.offR g48 (fun k hk e => ap_oi_B2_2 k hk (Option.some.inj e).symm)
        replace HG := grown_newR HG g48 lo_B2_2
        replace HB2_2 := h48
        have sv49 : Sv 47 [{ target := .fn (.func 68) #[.pointer (some ⟨B4_4, 0, none⟩), .pointer (some ⟨B5_5, 0, none⟩)], args := #[] }] [(7, .bool false), (5, .pointer (some ⟨B5_5, 0, none⟩)), (4, .pointer (some ⟨B4_4, 0, none⟩)), (3, .pointer (some ⟨B3_3, 0, none⟩)), (2, .pointer (some ⟨B2_2, 0, none⟩)), (12, .bool false), (22, .bool false), (27, .bool false), (8, .pointer (some ⟨B8_42, 0, none⟩))] a47 := ⟨sv47.1, sv47.2.1, sv47.2.2.1, sv47.2.2.2.2.1, sv47.2.2.2.2.2.1, sv47.2.2.2.2.2.2.1, sv47.2.2.2.2.2.2.2.1, sv47.2.2.2.2.2.2.2.2.1, sv47.2.2.2.2.2.2.2.2.2.1, sv47.2.2.2.2.2.2.2.2.2.2.1, sv47.2.2.2.2.2.2.2.2.2.2.2.1, trivial⟩
        refine tl_nil ?_
        refine k45 _ _ ?_
        refine wp_seq_k fun K50 k50 => ?_
        refine wp_region_lit ?_
        refine sx_head (sv49.st w48) 4 [(42, Sp.is (.pointer (some ⟨B2_2, 32, none⟩))), (43, Sp.is (dval po)), (44, Sp.is (dval ((kd 276 po)))), (45, Sp.is (.pointer (some ⟨B2_2, 32, none⟩)))] rfl (by kernel_rfl) (by kernel_rfl) (by kernel_rfl)
          ⟨xf rfl rfl rfl rfl rfl (fun _ => by kernel_rfl) rfl, xp (i := 1) rfl rfl rfl rfl rfl (tyD po hpo.1) HB2_2 rfl (by simp [bv_length, zero32_len, hsa.1, hpo.1]) rfl, ox_call (Sp.is (dval ((kd 276 po)))) [.int .u64 276, dval po, .slice none 0 0] rfl rfl trivial ⟨rfl, (oy rfl rfl), rfl, trivial⟩ (is_on fun W g => keyed_c (n := 276) (by decide) rfl hpo W) (fun _ _ h => h) (enter_of Try.func67 (by kernel_rfl) rfl), xf rfl rfl rfl rfl rfl (fun _ => by kernel_rfl) rfl, trivial⟩ fun a51 w51 g51 st51 => ?_
        obtain ⟨hn51, hd51, e51_42, e51_43, e51_44, e51_45, e51_7, e51_5, e51_4, e51_3, e51_2, e51_12, e51_22, e51_27, e51_8, -⟩ := st51
        replace HB2_2 := rw_kn g51 HB2_2
        replace HB3_3 := rw_kn g51 HB3_3
        replace HB4_4 := rw_kn g51 HB4_4
        replace HB5_5 := rw_kn g51 HB5_5
        replace HB8_42 := rw_kn g51 HB8_42
        replace HV := rw_kn g51 HV
        replace hr := hr.kn g51
        replace ow := ow.kn g51
        replace kr := kr.kn g51
        replace rt := rt.kn g51
        replace oi := oi.kn g51
        replace HG := grown_trans HG g51
        have sv51 : Sv 47 [{ target := .fn (.func 68) #[.pointer (some ⟨B4_4, 0, none⟩), .pointer (some ⟨B5_5, 0, none⟩)], args := #[] }] [(7, .bool false), (5, .pointer (some ⟨B5_5, 0, none⟩)), (4, .pointer (some ⟨B4_4, 0, none⟩)), (3, .pointer (some ⟨B3_3, 0, none⟩)), (2, .pointer (some ⟨B2_2, 0, none⟩)), (12, .bool false), (22, .bool false), (27, .bool false), (8, .pointer (some ⟨B8_42, 0, none⟩)), (44, dval ((kd 276 po))), (45, .pointer (some ⟨B2_2, 32, none⟩))] a51 := ⟨hn51, hd51, e51_7, e51_5, e51_4, e51_3, e51_2, e51_12, e51_22, e51_27, e51_8, e51_44, e51_45, trivial⟩
        refine tl_storeP (L := [bv sa, bv po, [.slice ai (ks.length + 1) ci]]) (i := 1) sv51 rfl rfl rfl rfl rfl rfl rfl (tyD ((kd 276 po)) (kd_dg _ _).1) HB2_2 rfl (by simp [bv_length, zero32_len, hsa.1, hpo.1]) (lenDD hpo (kd_dg _ _)) fun w52 g52 h52 => ?_
        replace HB3_3 := rw_st g52 HB3_3 ne_B3_3_B2_2
        replace HB4_4 := rw_st g52 HB4_4 ne_B4_4_B2_2
        replace HB5_5 := rw_st g52 HB5_5 ne_B5_5_B2_2
        replace HB8_42 := rw_st g52 HB8_42 ne_B8_42_B2_2
        replace HV := rw_st g52 HV ne_V_B2_2
        replace hr := hr.offR g52 (fun k hk e => ap_hr_B2_2 k hk (Option.some.inj e).symm)
        replace ow := ow.offR g52 (fun k hk e => ap_ow_B2_2 k hk (Option.some.inj e).symm)
        replace kr := kr.offR g52 (fun k hk e => ap_kr_B2_2 k hk (Option.some.inj e).symm)
        replace rt := rt.offR g52 (fun k hk e => ap_rt_B2_2 k hk (Option.some.inj e).symm)
        replace oi := oi.offR g52 (fun k hk e => ap_oi_B2_2 k hk (Option.some.inj e).symm)
        replace HG := grown_newR HG g52 lo_B2_2
        replace HB2_2 := h52
        have sv53 : Sv 47 [{ target := .fn (.func 68) #[.pointer (some ⟨B4_4, 0, none⟩), .pointer (some ⟨B5_5, 0, none⟩)], args := #[] }] [(7, .bool false), (5, .pointer (some ⟨B5_5, 0, none⟩)), (4, .pointer (some ⟨B4_4, 0, none⟩)), (3, .pointer (some ⟨B3_3, 0, none⟩)), (2, .pointer (some ⟨B2_2, 0, none⟩)), (12, .bool false), (22, .bool false), (27, .bool false), (8, .pointer (some ⟨B8_42, 0, none⟩))] a51 := ⟨sv51.1, sv51.2.1, sv51.2.2.1, sv51.2.2.2.1, sv51.2.2.2.2.1, sv51.2.2.2.2.2.1, sv51.2.2.2.2.2.2.1, sv51.2.2.2.2.2.2.2.1, sv51.2.2.2.2.2.2.2.2.1, sv51.2.2.2.2.2.2.2.2.2.1, sv51.2.2.2.2.2.2.2.2.2.2.1, trivial⟩
        refine tl_nil ?_
        refine k50 _ _ ?_
        refine wp_seq_k fun K54 k54 => ?_
        refine wp_region_lit ?_
        refine sx_head (sv53.st w52) 1 [(46, Sp.is (vval sa ((kd 276 po)) (.slice ai (ks.length + 1) ci)))] rfl (by kernel_rfl) (by kernel_rfl) (by kernel_rfl)
          ⟨xl rfl rfl rfl rfl rfl (tyVa hsa (kd_dg _ _) (.slice ai (ks.length + 1) ci) rfl) HB2_2 rfl, trivial⟩ fun a55 w55 g55 st55 => ?_
        obtain ⟨hn55, hd55, e55_46, e55_7, e55_5, e55_4, e55_3, e55_2, e55_12, e55_22, e55_27, e55_8, -⟩ := st55
        replace HB2_2 := rw_kn g55 HB2_2
        replace HB3_3 := rw_kn g55 HB3_3
        replace HB4_4 := rw_kn g55 HB4_4
        replace HB5_5 := rw_kn g55 HB5_5
        replace HB8_42 := rw_kn g55 HB8_42
        replace HV := rw_kn g55 HV
        replace hr := hr.kn g55
        replace ow := ow.kn g55
        replace kr := kr.kn g55
        replace rt := rt.kn g55
        replace oi := oi.kn g55
        replace HG := grown_trans HG g55
        have sv55 : Sv 47 [{ target := .fn (.func 68) #[.pointer (some ⟨B4_4, 0, none⟩), .pointer (some ⟨B5_5, 0, none⟩)], args := #[] }] [(7, .bool false), (5, .pointer (some ⟨B5_5, 0, none⟩)), (4, .pointer (some ⟨B4_4, 0, none⟩)), (3, .pointer (some ⟨B3_3, 0, none⟩)), (2, .pointer (some ⟨B2_2, 0, none⟩)), (12, .bool false), (22, .bool false), (27, .bool false), (8, .pointer (some ⟨B8_42, 0, none⟩)), (46, vval sa ((kd 276 po)) (.slice ai (ks.length + 1) ci))] a55 := ⟨hn55, hd55, e55_7, e55_5, e55_4, e55_3, e55_2, e55_12, e55_22, e55_27, e55_8, e55_46, trivial⟩
        refine tl_storeW sv55 rfl rfl rfl rfl rfl rfl rfl (tyVa hsa (kd_dg _ _) (.slice ai (ks.length + 1) ci) rfl) HB4_4 (by first | rfl | simp [kcells, bv_length, zero32_len, hsa.1, (kd_dg _ _).1]) fun w56 g56 h56 => ?_
        replace HB2_2 := rw_st g56 HB2_2 (Ne.symm ne_B4_4_B2_2)
        replace HB3_3 := rw_st g56 HB3_3 (Ne.symm ne_B4_4_B3_3)
        replace HB5_5 := rw_st g56 HB5_5 ne_B5_5_B4_4
        replace HB8_42 := rw_st g56 HB8_42 ne_B8_42_B4_4
        replace HV := rw_st g56 HV ne_V_B4_4
        replace hr := hr.offR g56 (fun k hk e => ap_hr_B4_4 k hk (Option.some.inj e).symm)
        replace ow := ow.offR g56 (fun k hk e => ap_ow_B4_4 k hk (Option.some.inj e).symm)
        replace kr := kr.offR g56 (fun k hk e => ap_kr_B4_4 k hk (Option.some.inj e).symm)
        replace rt := rt.offR g56 (fun k hk e => ap_rt_B4_4 k hk (Option.some.inj e).symm)
        replace oi := oi.offR g56 (fun k hk e => ap_oi_B4_4 k hk (Option.some.inj e).symm)
        replace HG := grown_newR HG g56 lo_B4_4
        replace HB4_4 := h56
        refine tl_storeW sv55 rfl rfl rfl rfl rfl rfl rfl (tyE 0) HB5_5 rfl fun w57 g57 h57 => ?_
        replace HB2_2 := rw_st g57 HB2_2 (Ne.symm ne_B5_5_B2_2)
        replace HB3_3 := rw_st g57 HB3_3 (Ne.symm ne_B5_5_B3_3)
        replace HB4_4 := rw_st g57 HB4_4 (Ne.symm ne_B5_5_B4_4)
        replace HB8_42 := rw_st g57 HB8_42 ne_B8_42_B5_5
        replace HV := rw_st g57 HV ne_V_B5_5
        replace hr := hr.offR g57 (fun k hk e => ap_hr_B5_5 k hk (Option.some.inj e).symm)
        replace ow := ow.offR g57 (fun k hk e => ap_ow_B5_5 k hk (Option.some.inj e).symm)
        replace kr := kr.offR g57 (fun k hk e => ap_kr_B5_5 k hk (Option.some.inj e).symm)
        replace rt := rt.offR g57 (fun k hk e => ap_rt_B5_5 k hk (Option.some.inj e).symm)
        replace oi := oi.offR g57 (fun k hk e => ap_oi_B5_5 k hk (Option.some.inj e).symm)
        replace HG := grown_newR HG g57 lo_B5_5
        replace HB5_5 := h57
        have sv58 : Sv 47 [{ target := .fn (.func 68) #[.pointer (some ⟨B4_4, 0, none⟩), .pointer (some ⟨B5_5, 0, none⟩)], args := #[] }] [(7, .bool false), (5, .pointer (some ⟨B5_5, 0, none⟩)), (4, .pointer (some ⟨B4_4, 0, none⟩)), (3, .pointer (some ⟨B3_3, 0, none⟩)), (2, .pointer (some ⟨B2_2, 0, none⟩)), (12, .bool false), (22, .bool false), (27, .bool false), (8, .pointer (some ⟨B8_42, 0, none⟩))] a55 := ⟨sv55.1, sv55.2.1, sv55.2.2.1, sv55.2.2.2.1, sv55.2.2.2.2.1, sv55.2.2.2.2.2.1, sv55.2.2.2.2.2.2.1, sv55.2.2.2.2.2.2.2.1, sv55.2.2.2.2.2.2.2.2.1, sv55.2.2.2.2.2.2.2.2.2.1, sv55.2.2.2.2.2.2.2.2.2.2.1, trivial⟩
        refine tl_nil ?_
        refine k54 _ _ ?_
        refine wp_ret ?_
        repeat refine then_ret ?_
        refine cx_retD (fn := Try.f36) sv58 (res_cell2 (p := 4) (q := 5) Try.results36 sv58 rfl rfl rfl rfl (tyVa hsa (kd_dg _ _) (.slice ai (ks.length + 1) ci) rfl) (tyE 0) HB4_4 HB5_5) (inv_of Try.func68 (by kernel_rfl) rfl _ _) (recEnsure_walk _ _ _) ?_
        exact VRes.mk (P := insV (ks.map VK.p) o T) (by unfold ensO; rw [if_pos hv, if_neg (by rw [hf]; simp), if_neg (by simpa using hfull)]) (map_ins hmp hi hyo hyl) oi (KsT.ins kr rt i) HG
    · refine wp_region_lit ?_
      refine sx_head (sv23.st w22) 6 [(17, Sp.is (vval sa po (.slice ((some ⟨A, 0, none⟩)) ks.length ks.length))), (18, Sp.is (dval o)), (19, Sp.is (.tuple #[.int .i64 ((i : Int)), .bool true])), (16, Sp.is (.tuple #[.int .i64 ((i : Int)), .bool true])), (20, Sp.is (.int .i64 ((i : Int)))), (21, Sp.is (.bool true))] rfl (by kernel_rfl) (by kernel_rfl) (by kernel_rfl)
        ⟨xl rfl rfl rfl rfl rfl (tyVa hsa hpo (.slice ((some ⟨A, 0, none⟩)) ks.length ks.length) rfl) HB2_2 rfl, xl rfl rfl rfl rfl rfl (tyD o ho.1) HB3_3 rfl, ox_call (Sp.is (.tuple #[.int .i64 ((i : Int)), .bool true])) [vval sa po (.slice ((some ⟨A, 0, none⟩)) ks.length ks.length), dval o] rfl rfl trivial ⟨(oy rfl rfl), (oy rfl rfl), trivial⟩ (is_on fun W g => find_own hsa hpo ho hmp (ow.kn g) (kr.1.kn g) hv hf hi) (fun _ _ h => h) (enter_of Try.func70 (by kernel_rfl) rfl), xm rfl rfl rfl rfl rfl, ox_extract rfl rfl rfl trivial (fun _ _ h => ⟨_, _, h, rfl, rfl⟩), ox_extract rfl rfl rfl trivial (fun _ _ h => ⟨_, _, h, rfl, rfl⟩), trivial⟩ fun a59 w59 g59 st59 => ?_
      obtain ⟨hn59, hd59, e59_17, e59_18, e59_19, e59_16, e59_20, e59_21, e59_5, e59_4, e59_3, e59_2, e59_12, -⟩ := st59
      replace HB2_2 := rw_kn g59 HB2_2
      replace HB3_3 := rw_kn g59 HB3_3
      replace HB4_4 := rw_kn g59 HB4_4
      replace HB5_5 := rw_kn g59 HB5_5
      replace hr := hr.kn g59
      replace ow := ow.kn g59
      replace kr := kr.kn g59
      replace HG := grown_trans HG g59
      have sv59 : Sv 47 [{ target := .fn (.func 68) #[.pointer (some ⟨B4_4, 0, none⟩), .pointer (some ⟨B5_5, 0, none⟩)], args := #[] }] [(5, .pointer (some ⟨B5_5, 0, none⟩)), (4, .pointer (some ⟨B4_4, 0, none⟩)), (3, .pointer (some ⟨B3_3, 0, none⟩)), (2, .pointer (some ⟨B2_2, 0, none⟩)), (12, .bool false), (20, .int .i64 ((i : Int))), (21, .bool true)] a59 := ⟨hn59, hd59, e59_5, e59_4, e59_3, e59_2, e59_12, e59_20, e59_21, trivial⟩
      refine tl_assign sv59 rfl (.inl rfl) rfl rfl rfl rfl fun a60 sv60 => ?_
      replace sv60 : Sv 47 [{ target := .fn (.func 68) #[.pointer (some ⟨B4_4, 0, none⟩), .pointer (some ⟨B5_5, 0, none⟩)], args := #[] }] [(6, .int .i64 ((i : Int))), (5, .pointer (some ⟨B5_5, 0, none⟩)), (4, .pointer (some ⟨B4_4, 0, none⟩)), (3, .pointer (some ⟨B3_3, 0, none⟩)), (2, .pointer (some ⟨B2_2, 0, none⟩)), (12, .bool false), (20, .int .i64 ((i : Int))), (21, .bool true)] a60 := sv60
      refine tl_assign sv60 rfl (.inl rfl) rfl rfl rfl rfl fun a61 sv61 => ?_
      replace sv61 : Sv 47 [{ target := .fn (.func 68) #[.pointer (some ⟨B4_4, 0, none⟩), .pointer (some ⟨B5_5, 0, none⟩)], args := #[] }] [(7, .bool true), (6, .int .i64 ((i : Int))), (5, .pointer (some ⟨B5_5, 0, none⟩)), (4, .pointer (some ⟨B4_4, 0, none⟩)), (3, .pointer (some ⟨B3_3, 0, none⟩)), (2, .pointer (some ⟨B2_2, 0, none⟩)), (12, .bool false), (20, .int .i64 ((i : Int))), (21, .bool true)] a61 := sv61
      have sv62 : Sv 47 [{ target := .fn (.func 68) #[.pointer (some ⟨B4_4, 0, none⟩), .pointer (some ⟨B5_5, 0, none⟩)], args := #[] }] [(7, .bool true), (6, .int .i64 ((i : Int))), (5, .pointer (some ⟨B5_5, 0, none⟩)), (4, .pointer (some ⟨B4_4, 0, none⟩)), (3, .pointer (some ⟨B3_3, 0, none⟩)), (2, .pointer (some ⟨B2_2, 0, none⟩)), (12, .bool false)] a61 := ⟨sv61.1, sv61.2.1, sv61.2.2.1, sv61.2.2.2.1, sv61.2.2.2.2.1, sv61.2.2.2.2.2.1, sv61.2.2.2.2.2.2.1, sv61.2.2.2.2.2.2.2.1, sv61.2.2.2.2.2.2.2.2.1, trivial⟩
      refine tl_nil ?_
      refine k24 _ _ ?_
      refine wp_seq_k fun K63 k63 => ?_
      refine wp_seq_k fun K64 k64 => ?_
      refine wp_region_lit ?_
      refine sx_head (sv62.st w59) 1 [(22, Sp.is (.bool true))] rfl (by kernel_rfl) (by kernel_rfl) (by kernel_rfl)
        ⟨xm rfl rfl rfl rfl rfl, trivial⟩ fun a65 w65 g65 st65 => ?_
      obtain ⟨hn65, hd65, e65_22, e65_7, e65_6, e65_5, e65_4, e65_3, e65_2, e65_12, -⟩ := st65
      replace HB2_2 := rw_kn g65 HB2_2
      replace HB3_3 := rw_kn g65 HB3_3
      replace HB4_4 := rw_kn g65 HB4_4
      replace HB5_5 := rw_kn g65 HB5_5
      replace hr := hr.kn g65
      replace ow := ow.kn g65
      replace kr := kr.kn g65
      replace HG := grown_trans HG g65
      have sv65 : Sv 47 [{ target := .fn (.func 68) #[.pointer (some ⟨B4_4, 0, none⟩), .pointer (some ⟨B5_5, 0, none⟩)], args := #[] }] [(7, .bool true), (6, .int .i64 ((i : Int))), (5, .pointer (some ⟨B5_5, 0, none⟩)), (4, .pointer (some ⟨B4_4, 0, none⟩)), (3, .pointer (some ⟨B3_3, 0, none⟩)), (2, .pointer (some ⟨B2_2, 0, none⟩)), (12, .bool false), (22, .bool true)] a65 := ⟨hn65, hd65, e65_7, e65_6, e65_5, e65_4, e65_3, e65_2, e65_12, e65_22, trivial⟩
      refine tl_nil ?_
      refine k64 _ _ ?_
      refine cx_ifT sv65 rfl rfl ?_
      refine wp_seq_k fun K66 k66 => ?_
      refine wp_region_lit ?_
      refine sx_head (sv65.st w65) 1 [(23, Sp.is (vval sa po (.slice ((some ⟨A, 0, none⟩)) ks.length ks.length)))] rfl (by kernel_rfl) (by kernel_rfl) (by kernel_rfl)
        ⟨xl rfl rfl rfl rfl rfl (tyVa hsa hpo (.slice ((some ⟨A, 0, none⟩)) ks.length ks.length) rfl) HB2_2 rfl, trivial⟩ fun a67 w67 g67 st67 => ?_
      obtain ⟨hn67, hd67, e67_23, e67_7, e67_6, e67_5, e67_4, e67_3, e67_2, e67_12, e67_22, -⟩ := st67
      replace HB2_2 := rw_kn g67 HB2_2
      replace HB3_3 := rw_kn g67 HB3_3
      replace HB4_4 := rw_kn g67 HB4_4
      replace HB5_5 := rw_kn g67 HB5_5
      replace hr := hr.kn g67
      replace ow := ow.kn g67
      replace kr := kr.kn g67
      replace HG := grown_trans HG g67
      have sv67 : Sv 47 [{ target := .fn (.func 68) #[.pointer (some ⟨B4_4, 0, none⟩), .pointer (some ⟨B5_5, 0, none⟩)], args := #[] }] [(7, .bool true), (6, .int .i64 ((i : Int))), (5, .pointer (some ⟨B5_5, 0, none⟩)), (4, .pointer (some ⟨B4_4, 0, none⟩)), (3, .pointer (some ⟨B3_3, 0, none⟩)), (2, .pointer (some ⟨B2_2, 0, none⟩)), (12, .bool false), (22, .bool true), (23, vval sa po (.slice ((some ⟨A, 0, none⟩)) ks.length ks.length))] a67 := ⟨hn67, hd67, e67_7, e67_6, e67_5, e67_4, e67_3, e67_2, e67_12, e67_22, e67_23, trivial⟩
      refine tl_storeW sv67 rfl rfl rfl rfl rfl rfl rfl (tyVa hsa hpo (.slice ((some ⟨A, 0, none⟩)) ks.length ks.length) rfl) HB4_4 (by first | rfl | simp [kcells, bv_length, zero32_len, hsa.1, hpo.1]) fun w68 g68 h68 => ?_
      replace HB2_2 := rw_st g68 HB2_2 (Ne.symm ne_B4_4_B2_2)
      replace HB3_3 := rw_st g68 HB3_3 (Ne.symm ne_B4_4_B3_3)
      replace HB5_5 := rw_st g68 HB5_5 ne_B5_5_B4_4
      replace hr := hr.offR g68 (fun k hk e => ap_hr_B4_4 k hk (Option.some.inj e).symm)
      replace ow := ow.offR g68 (fun k hk e => ap_ow_B4_4 k hk (Option.some.inj e).symm)
      replace kr := kr.offR g68 (fun k hk e => ap_kr_B4_4 k hk (Option.some.inj e).symm)
      replace HG := grown_newR HG g68 lo_B4_4
      replace HB4_4 := h68
      refine tl_storeW sv67 rfl rfl rfl rfl rfl rfl rfl (tyE 0) HB5_5 rfl fun w69 g69 h69 => ?_
      replace HB2_2 := rw_st g69 HB2_2 (Ne.symm ne_B5_5_B2_2)
      replace HB3_3 := rw_st g69 HB3_3 (Ne.symm ne_B5_5_B3_3)
      replace HB4_4 := rw_st g69 HB4_4 (Ne.symm ne_B5_5_B4_4)
      replace hr := hr.offR g69 (fun k hk e => ap_hr_B5_5 k hk (Option.some.inj e).symm)
      replace ow := ow.offR g69 (fun k hk e => ap_ow_B5_5 k hk (Option.some.inj e).symm)
      replace kr := kr.offR g69 (fun k hk e => ap_kr_B5_5 k hk (Option.some.inj e).symm)
      replace HG := grown_newR HG g69 lo_B5_5
      replace HB5_5 := h69
      have sv70 : Sv 47 [{ target := .fn (.func 68) #[.pointer (some ⟨B4_4, 0, none⟩), .pointer (some ⟨B5_5, 0, none⟩)], args := #[] }] [(7, .bool true), (6, .int .i64 ((i : Int))), (5, .pointer (some ⟨B5_5, 0, none⟩)), (4, .pointer (some ⟨B4_4, 0, none⟩)), (3, .pointer (some ⟨B3_3, 0, none⟩)), (2, .pointer (some ⟨B2_2, 0, none⟩)), (12, .bool false), (22, .bool true)] a67 := ⟨sv67.1, sv67.2.1, sv67.2.2.1, sv67.2.2.2.1, sv67.2.2.2.2.1, sv67.2.2.2.2.2.1, sv67.2.2.2.2.2.2.1, sv67.2.2.2.2.2.2.2.1, sv67.2.2.2.2.2.2.2.2.1, sv67.2.2.2.2.2.2.2.2.2.1, trivial⟩
      refine tl_nil ?_
      refine k66 _ _ ?_
      refine wp_ret ?_
      repeat refine then_ret ?_
      refine cx_retD (fn := Try.f36) sv70 (res_cell2 (p := 4) (q := 5) Try.results36 sv70 rfl rfl rfl rfl (tyVa hsa hpo (.slice ((some ⟨A, 0, none⟩)) ks.length ks.length) rfl) (tyE 0) HB4_4 HB5_5) (inv_of Try.func68 (by kernel_rfl) rfl _ _) (recEnsure_walk _ _ _) ?_
      exact VRes.mk (P := ks.map VK.p) (by unfold ensO; rw [if_pos hv, if_pos hf]) hmp ow kr HG
end Go.Proofs.Yteakoleceoclkaa
