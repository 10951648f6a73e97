/- Identifiers as bytes; pseudonyms. (printed by gen_kb.py) -/
import Derived.Test.YteakoleceoclkaaKA
import Derived.Test.YteakoleceoclkaaSJ
import Derived.Test.YteakoleceoclkaaVB
namespace Go.Proofs.Yteakoleceoclkaa
open Go.RowKit Go.Shelf
set_option linter.unusedSimpArgs false
set_option linter.unusedVariables false
theorem px_field {P : Program} {ops : Array Oper} {L : Nat → Sp} {n : Nat} {w0 : World} {o : Oper} {ty : TypeId} {x : Operand} {k d : Nat} {p v : Value} (ho : o.op = .fieldAddr ty x k) (hd : o.dst = some d) (hg : GX ops L n o.guard) (hx : OpX L n x p) (hrun : ∀ w, (Instr.fieldAt ty p k).run P w = .ok v w) (h : ∀ w, (L d).on w v) : PX P ops L n w0 o :=
 px_run hg fun a w hw hl hsz => ⟨v, fun w' => by
   have e1 := hx.eval (o := o) (by simp [ho, Op.operands]) hl
   simp only [execOp, ho, e1, Sem.run_bind, Sem.run_pure, Result.andThen_ok, hrun w'], dst_on hd (h w)⟩
/-! ## what the bytes are -/
theorem leb_lt (n : Nat) : ∀ b ∈ leb n, b < 256 := by
 induction n using Nat.strongRecOn with
 | _ n ih =>
   by_cases h : n < 128
   · rw [leb_small h]; intro b hb; simp at hb; omega
   · rw [leb_big h]
     intro b hb
     rcases List.mem_cons.1 hb with rfl | hb
     · omega
     · exact ih (n / 128) (by omega) b hb
theorem enc_lt (n : Int) : ∀ b ∈ enc n, b < 256 := leb_lt _
theorem encT_lt (s : ByteArray) : ∀ b ∈ encT s, b < 256 := fun b hb => by
 rcases List.mem_append.1 hb with h | h
 · exact enc_lt _ b h
 · exact by_lt s b h
theorem encC_lt (v : V) : ∀ b ∈ encC v, b < 256 := fun b hb => by
 unfold encC at hb
 rcases List.mem_append.1 hb with h | h
 · exact enc_lt _ b h
 · split at h
   · exact enc_lt _ b h
   · split at h
     · exact encT_lt _ b h
     · cases h
theorem encIdf_lt (x : Idf) : ∀ b ∈ encIdf x, b < 256 := fun b hb => by
 rcases List.mem_append.1 hb with h | h
 · exact encT_lt _ b h
 · exact encC_lt _ b h
def pse (sa : List Nat) (x : Idf) : List Nat := keyed (BitVec.ofNat 64 272) sa (encIdf x)
theorem pse_dg (sa : List Nat) (x : Idf) : Dg (pse sa x) := ⟨dig_len _ _, dig_lt _ _⟩
/-! ## cells -/
def vc (v : V) : List Value := [.int .i64 v.kind, .int .i64 v.int, .string v.text]
theorem tyV2 (v : V) : TY Try.prog 71 (vc v) (xval v) := tyV v
theorem tyIdf (x : Idf) : TY Try.prog 73 ([[.string x.ns], vc x.val].flatten) (valIdf x) := TY.agg Try.underlying73 rfl (by kernel_rfl) (by
 intro c hc
 simp [vc] at hc
 rcases hc with rfl | rfl | rfl | rfl <;> rfl)
/-! ## the codec's functions as they are called here -/
theorem step_nil {w w' : World} {v' : Value} (h : Step w nilS w' v') : w.grownBy w' none ∧ ∀ k, fpS v' k → w.heap.size ≤ k := ⟨Step.none h, fun k hk => (h.2 k hk).elim (fun h => by simp [nilS, Value.ownBlock] at h) id⟩
theorem text_c {w : World} (s : ByteArray) (h : s.size ≤ 1000000) : Calls Try.prog 111 #[.slice none 0 0, .string s] w fun e w' => ∃ v, e = .returned v ∧ (Sp.row w.heap.size 5 1 (encT s).length (bv (encT s))).on w' v ∧ w.grownBy w' none :=
 (text_app nilS s [] w (Own.nil _ _ _) (by simp; omega)).mono fun e w' ⟨v, h1, h2, h3⟩ => by
   obtain ⟨ao, cap, rfl, _⟩ := (Sl.of_own h2).shape
   exact ⟨_, h1, ⟨ao, cap, rfl, h2, (step_nil h3).2⟩, (step_nil h3).1⟩
theorem cell_c {w : World} {ao : Option Addr} {cap : Nat} {xs : List Nat} (x : V) (h : Own w 5 1 (.slice ao xs.length cap) xs.length (bv xs)) (hl : xs.length ≤ 2000000) : Calls Try.prog 110 #[.slice ao xs.length cap, xval x] w fun e w' => ∃ v, e = .returned v ∧ ∃ ao2 cap2, v = .slice ao2 (xs ++ encV x).length cap2 ∧ Own w' 5 1 (.slice ao2 (xs ++ encV x).length cap2) (xs ++ encV x).length (bv (xs ++ encV x)) ∧ Step w (.slice ao xs.length cap) w' (.slice ao2 (xs ++ encV x).length cap2) :=
 (cell_app _ x xs w h (by omega)).mono fun e w' ⟨v, h1, h2, h3⟩ => by
   obtain ⟨ao, cap, rfl, _⟩ := (Sl.of_own h2).shape
   exact ⟨_, h1, ao, cap, rfl, h2, h3⟩
theorem fresh_row {w w' : World} {v : Value} {xs : List Nat} (h2 : Own w' 5 1 v xs.length (bv xs)) (h3 : Fresh w w' v) {B : Nat} (hB : B ≤ w.heap.size) : (Sp.row B 5 1 xs.length (bv xs)).on w' v := by
 obtain ⟨ao, cap, rfl, _⟩ := (Sl.of_own h2).shape
 exact ⟨ao, cap, rfl, h2, fun k hk => Nat.le_trans hB ((step_nil h3).2 k hk)⟩
theorem rtext_on {w0 : World} (s : ByteArray) (h : s.size ≤ 1000000) : ∀ W, w0.grownBy W none → Calls Try.prog 100 #[.string s] W fun e w' => ∃ v, e = .returned v ∧ W.grownBy w' none ∧ (Sp.row w0.heap.size 5 1 (encT s).length (bv (encT s))).on w' v := fun W g =>
 (refText_walk s W (by omega)).mono fun e w' ⟨v, h1, h2, h3⟩ => ⟨v, h1, (step_nil h3).1, fresh_row h2 h3 g.size⟩
theorem rvalue_on {w0 : World} (x : V) : ∀ W, w0.grownBy W none → Calls Try.prog 101 #[xval x] W fun e w' => ∃ v, e = .returned v ∧ W.grownBy w' none ∧ (Sp.row w0.heap.size 5 1 (encV x).length (bv (encV x))).on w' v := fun W g =>
 (refValue_walk x W).mono fun e w' ⟨v, h1, h2, h3⟩ => ⟨v, h1, (step_nil h3).1, fresh_row h2 h3 g.size⟩
theorem extend_on {w0 : World} {ao : Option Addr} {n cap : Nat} {ys : List Nat} (hn : n = ys.length) (h : Own w0 5 1 (.slice ao n cap) n (bv ys)) (hm : 0 < ys.length) (hl : ys.length ≤ 3000000) : ∀ W, w0.grownBy W none → Calls Try.prog 98 #[.slice none 0 0, .slice ao n cap] W fun e w' => ∃ v, e = .returned v ∧ W.grownBy w' none ∧ (Sp.row w0.heap.size 5 1 ys.length (bv ys)).on w' v := fun W g => by
 subst hn
 exact (extend_walk nilS _ [] ys W (Sl.nil W 1) (Sl.of_own (h.kn g)) hm (by simp; omega)).mono fun e w' ⟨v, h1, h2, h3⟩ => ⟨v, h1, (step_nil h3).1, fresh_row (by simpa using h2) h3 g.size⟩
theorem recAId_walk (w : World) : CallsD Try.prog 97 #[] .returning w fun e u' w' => e = .returned (.tuple #[]) ∧ u' = .returning ∧ w' = w := by
 refine callsD_of_wpS Try.func97 rfl fun c₀ cs hu => ?_
 apply wpS_region
 simp [wpOpsS, go_sem, recoverD, hu, Try.ntmps97]
 cases c₀
 simp_all [bodyPostS, results, Try.results97]
theorem keyed_r {W : World} {B : Nat} {sa ys K : List Nat} {v1 v2 v3 : Value} (hK : keyed (BitVec.ofNat 64 272) sa ys = K) (hs : Dg sa) (hy : ∀ b ∈ ys, b < 256) (hl : ys.length ≤ 3000000) (h1 : v1 = .int .u64 272) (h2 : v2 = dval sa) (h3 : (Sp.row B 5 1 ys.length (bv ys)).on W v3) : Calls Try.prog 67 #[v1, v2, v3] W fun e w' => ∃ v, e = .returned v ∧ W.grownBy w' none ∧ (Sp.is (dval K)).on w' v := by
 subst hK
 obtain ⟨ao, cap, rfl, ho, _⟩ := h3
 subst h1 h2
 have e : (272 : Int) = wi (BitVec.ofNat 64 272) := by decide
 rw [e]
 exact (keyed_walk _ sa ys hs.1 hs.2 hy (by omega) _ W (Sl.of_own ho)).mono fun e w' ⟨h1, h2⟩ => ⟨_, h1, h2, rfl⟩
theorem rkeyed_r {W : World} {B : Nat} {sa ys K : List Nat} {v1 v2 v3 : Value} (hK : keyed (BitVec.ofNat 64 272) sa ys = K) (hs : Dg sa) (hy : ∀ b ∈ ys, b < 256) (hl : ys.length ≤ 3000000) (h1 : v1 = .int .u64 272) (h2 : v2 = dval sa) (h3 : (Sp.row B 5 1 ys.length (bv ys)).on W v3) : Calls Try.prog 76 #[v1, v2, v3] W fun e w' => ∃ v, e = .returned v ∧ W.grownBy w' none ∧ (Sp.is (dval K)).on w' v := by
 subst hK
 obtain ⟨ao, cap, rfl, ho, _⟩ := h3
 subst h1 h2
 have e : (272 : Int) = wi (BitVec.ofNat 64 272) := by decide
 rw [e]
 exact (rkeyed_walk _ sa ys hs.1 hs.2 hy (by omega) _ W (Sl.of_own ho)).mono fun e w' ⟨h1, h2⟩ => ⟨_, h1, h2, rfl⟩
def NwR (w w' : World) (xs : List Nat) (e : Ending) : Prop := ∃ v, e = .returned v ∧ w.grownBy w' none ∧ (Sp.row w.heap.size 5 1 xs.length (bv xs)).on w' v
theorem encIdf_bd (x : Idf) (h : x.ns.size ≤ 1000000) : (encIdf x).length ≤ 1000100 := by
 have h1 := encT_len x.ns (by omega)
 have h2 := encV_len x.val
 unfold encIdf
 rw [List.length_append]
 omega
theorem encIdf_pos (x : Idf) : 0 < (encIdf x).length := by
 unfold encIdf encT
 rw [List.length_append, List.length_append]
 have : 0 < (enc x.ns.size).length := by
   unfold enc
   by_cases h : zig x.ns.size < 128
   · rw [leb_small h]; simp
   · rw [leb_big h]; simp
 omega
set_option maxRecDepth 100000 in
set_option maxHeartbeats 4000000 in
theorem ident_walk (x : Idf) (hx : x.ns.size ≤ 1000000) (w : World) :
   Calls Try.prog 99 #[.slice none 0 0, valIdf x] w fun e w' => NwR w w' (encIdf x) e := by
 have hl := encT_len x.ns (by omega)
 refine cx_enter Try.func99 rfl Try.ntmps99 rfl fun a0 sv0 => ?_
 have HG := World.grownBy.refl w none
 replace sv0 : Sv 12 [] [(0, .slice none 0 0), (1, valIdf x)] a0 := sv0
 refine wp_seq_k fun K1 k1 => ?_
 refine wp_region_lit ?_
 refine tl_box sv0 rfl rfl rfl rfl rfl rfl (tyIdf x) fun a2 w2 B3_2 eq_B3_2 g2 z2 HB3_2 sv2 => ?_
 have lo_B3_2 := nb_lo HG eq_B3_2
 replace HG := grown_trans HG g2
 refine tl_as (v := .slice none 0 0) sv2 r6 fun a3 sv3 => ?_
 refine tl_nil ?_
 refine k1 _ _ ?_
 refine wp_seq_k fun K4 k4 => ?_
 have gd5 := grown_drew w2
 replace HB3_2 := rw_kn gd5 HB3_2
 replace HG := grown_trans HG gd5
 refine wp_region_noPanic ?_
 refine region_script (fun w' => w'.heap[B3_2]? = some (.cells ([[.string x.ns], vc x.val].flatten).toArray 73 (0, 0)) ∧ True) [0, 1, 2, 4, 5] [3, 6, 7] (by kernel_rfl) (by kernel_rfl) (fun _ _ d _ _ h => by cases d <;> exact h) rfl (by kernel_rfl) ⟨HB3_2, trivial⟩ ?_
 simp only [List.filterMap_cons, List.filterMap_nil, List.getElem?_toArray, List.getElem?_cons_succ, List.getElem?_cons_zero]
 refine tk_px (v := .slice none 0 0) w2.drew sv3 rfl (by kernel_rfl) (px_move 0 5 (.inl rfl) rfl rfl trivial (fun _ _ h => h)) fun a6 sv6 => ?_
 refine tk_px (v := pt B3_2) w2.drew sv6 rfl (by kernel_rfl) (px_field rfl rfl trivial (oy rfl rfl) (fun _ => by kernel_rfl) (fun _ => rfl)) fun a7 sv7 => ?_
 refine tk_load sv7 rfl rfl rfl rfl ⟨rfl, rfl⟩ (fun w hS => loadsAt (tyStr x.ns) (range_part (L := [[.string x.ns], vc x.val]) (i := 0) hS.1 rfl rfl)) fun a8 sv8 => ?_
 refine tk_px (v := pk B3_2 1) w2.drew sv8 rfl (by kernel_rfl) (px_field rfl rfl trivial (oy rfl rfl) (fun _ => by kernel_rfl) (fun _ => rfl)) fun a9 sv9 => ?_
 refine tk_load sv9 rfl rfl rfl rfl ⟨rfl, rfl⟩ (fun w hS => loadsAt (tyV2 x.val) (range_part (L := [[.string x.ns], vc x.val]) (i := 1) hS.1 rfl rfl)) fun a10 sv10 => ?_
 have sv11 : Sv 12 [] [(10, _), (7, _), (5, _), (4, _), (1, _)] a10 := sv10.dl [9, 6, 3, 0]
 change wpList _ _ _ _ _ _
 refine tl_call sv11 rfl rfl rfl rfl rfl (text_c x.ns hx) (enter_of Try.func111 (by kernel_rfl) rfl) fun a12 v12 w12 hR12 sv12 => ?_
 obtain ⟨⟨ao12, cap12, rfl, ow, fr⟩, g12⟩ := hR12
 have ap_ow_B3_2 := fr_ap fr HB3_2
 have lo_ow : ∀ k, fpS (.slice ao12 (encT x.ns).length cap12) k → w.heap.size ≤ k := fun k hk => Nat.le_trans HG.size (fr k hk)
 replace HB3_2 := rw_kn g12 HB3_2
 replace HG := grown_trans HG g12
 refine tl_nil ⟨⟨HB3_2, trivial⟩, ?_⟩
 change wpList _ _ _ _ _ _
 refine tl_call sv12 rfl rfl rfl rfl rfl (cell_c x.val ow (by omega)) (enter_of Try.func110 (by kernel_rfl) rfl) fun a13 v13 w13 hR13 sv13 => ?_
 obtain ⟨ao13, cap13, rfl, ox, stp⟩ := hR13
 have ap_ox_B3_2 : ∀ k, fpS (.slice ao13 (encT x.ns ++ encV x.val).length cap13) k → k ≠ B3_2 := fun k hk => (stp.2 k hk).elim (ap_ow_B3_2 k) (fun h => nh_ne HB3_2 h)
 have lo_ox : ∀ k, fpS (.slice ao13 (encT x.ns ++ encV x.val).length cap13) k → w.heap.size ≤ k := fun k hk => (stp.2 k hk).elim (lo_ow k) (fun h => Nat.le_trans HG.size h)
 replace HB3_2 := row_of stp.1 HB3_2 (fun e => ap_ow_B3_2 _ e.symm rfl)
 replace HG := grown_from HG stp.1 fun k e => lo_ow k (e)
 refine tl_nil ⟨⟨HB3_2, trivial⟩, ?_⟩
 change wpList _ _ _ _ _ _
 refine tl_as (v := .slice ao13 (encT x.ns ++ encV x.val).length cap13) sv13 r6 fun a14 sv14 => ?_
 refine tl_nil ⟨⟨HB3_2, trivial⟩, ?_⟩
 refine NoPanic.normal ?_
 have sv15 : Sv 12 [] [(4, _), (1, _)] a14 := sv14.dl [11, 8, 10, 7, 5]
 refine k4 _ _ ?_
 refine wp_ret ?_
 repeat refine then_ret ?_
 refine cx_ret (fn := Try.f99) sv15 (res_tmp (p := 4) Try.results99 sv15 rfl rfl) ?_
 exact ⟨_, rfl, HG, _, _, rfl, ox, lo_ox⟩
theorem ident_on {w0 : World} (x : Idf) (hx : x.ns.size ≤ 1000000) : ∀ W, w0.grownBy W none → Calls Try.prog 99 #[.slice none 0 0, valIdf x] W fun e w' => ∃ v, e = .returned v ∧ W.grownBy w' none ∧ (Sp.row w0.heap.size 5 1 (encIdf x).length (bv (encIdf x))).on w' v := fun W g =>
 (ident_walk x hx W).mono fun e w' ⟨v, h1, h2, ao, cap, h3, h4, h5⟩ => ⟨v, h1, h2, ao, cap, h3, h4, fun k hk => Nat.le_trans g.size (h5 k hk)⟩
set_option maxRecDepth 100000 in
set_option maxHeartbeats 4000000 in
theorem appid_walk (x : Idf) (hx : x.ns.size ≤ 1000000) (w : World) :
   Calls Try.prog 82 #[.slice none 0 0, valIdf x] w fun e w' => NwR w w' (encIdf x) e := by
 have hl := encIdf_bd x hx
 refine cx_enterD Try.func82 rfl Try.ntmps82 rfl fun a0 sv0 => ?_
 have HG := World.grownBy.refl w none
 replace sv0 : Sv 9 [] [(0, .slice none 0 0), (1, valIdf x)] a0 := sv0
 refine wp_seq_k fun K1 k1 => ?_
 refine wp_region_lit ?_
 refine tl_box sv0 rfl rfl rfl rfl rfl rfl (tyIdf x) fun a2 w2 B3_2 eq_B3_2 g2 z2 HB3_2 sv2 => ?_
 have lo_B3_2 := nb_lo HG eq_B3_2
 replace HG := grown_trans HG g2
 refine tl_as (v := .slice none 0 0) sv2 r6 fun a3 sv3 => ?_
 refine tl_nil ?_
 refine k1 _ _ ?_
 refine wp_seq_k fun K4 k4 => ?_
 refine wp_region_lit ?_
 refine tl_defer sv3 rfl (dd := { target := .fn (.func 97) #[], args := #[] }) rfl (by simp [execOp, resolve, Deferred.ofValue]; try rfl) fun a5 sv5 => ?_
 refine tl_nil ?_
 refine k4 _ _ ?_
 refine wp_seq_k fun K6 k6 => ?_
 refine wp_region_lit ?_
 refine sx_head (sv5.st w2) 3 [(5, Sp.is (.slice none 0 0)), (6, Sp.is (valIdf x)), (7, Sp.row w2.heap.size 5 1 ((encIdf x)).length (bv ((encIdf x))))] rfl (by kernel_rfl) (by kernel_rfl) (by kernel_rfl)
   ⟨ym r5, yl r6 (tyIdf x) HB3_2, ox_call (Sp.row w2.heap.size 5 1 ((encIdf x)).length (bv ((encIdf x)))) [.slice none 0 0, valIdf x] rfl rfl trivial ⟨rfl, (oy rfl rfl), trivial⟩ (ident_on x hx) (fun _ _ h => h) (enter_of Try.func99 (by kernel_rfl) rfl), trivial⟩ fun a7 w7 g7 st7 => ?_
 obtain ⟨hn7, hd7, e7_5, e7_6, e7_7, e7_4, e7_3, e7_0, e7_1, -⟩ := st7
 obtain ⟨ao8, cap8, e7_7q, ow8, fr8⟩ := e7_7
 have ap_ow8_B3_2 := fr_ap fr8 HB3_2
 have lo_ow8 : ∀ k, fpS (.slice ao8 ((encIdf x)).length cap8) k → w.heap.size ≤ k := fun k hk => Nat.le_trans HG.size (fr8 k hk)
 replace HB3_2 := rw_kn g7 HB3_2
 replace HG := grown_trans HG g7
 have sv7 : Sv 9 [{ target := .fn (.func 97) #[], args := #[] }] [(4, _), (3, _), (0, _), (1, _), (5, _), (7, _)] a7 := ⟨hn7, hd7, e7_4, e7_3, e7_0, e7_1, e7_5, e7_7q, trivial⟩
 refine sx_head (sv7.st w7) 1 [(8, Sp.row w7.heap.size 5 1 ((encIdf x)).length (bv ((encIdf x))))] rfl (by kernel_rfl) (by kernel_rfl) (by kernel_rfl)
   ⟨ox_call (Sp.row w7.heap.size 5 1 ((encIdf x)).length (bv ((encIdf x)))) [.slice none 0 0, .slice ao8 ((encIdf x)).length cap8] rfl rfl trivial ⟨(oy rfl rfl), (oy rfl rfl), trivial⟩ (extend_on rfl ow8 (encIdf_pos x) (by omega)) (fun _ _ h => h) (enter_of Try.func98 (by kernel_rfl) rfl), trivial⟩ fun a9 w9 g9 st9 => ?_
 obtain ⟨hn9, hd9, e9_8, e9_4, e9_3, e9_0, e9_1, e9_5, e9_7, -⟩ := st9
 obtain ⟨ao10, cap10, e9_8q, ow10, fr10⟩ := e9_8
 have ap_ow10_B3_2 := fr_ap fr10 HB3_2
 have ap_ow10_ow8 : ∀ k, fpS (.slice ao10 ((encIdf x)).length cap10) k → ¬ fpS (.slice ao8 ((encIdf x)).length cap8) k := fun k hk hzr => absurd (Own.ltS ow8 k hzr) (Nat.not_lt.2 (fr10 k hk))
 have ap_ow8_ow10 : ∀ k, fpS (.slice ao8 ((encIdf x)).length cap8) k → ¬ fpS (.slice ao10 ((encIdf x)).length cap10) k := fun k hzr hk => absurd (Own.ltS ow8 k hzr) (Nat.not_lt.2 (fr10 k hk))
 have lo_ow10 : ∀ k, fpS (.slice ao10 ((encIdf x)).length cap10) k → w.heap.size ≤ k := fun k hk => Nat.le_trans HG.size (fr10 k hk)
 replace HB3_2 := rw_kn g9 HB3_2
 replace ow8 := ow8.kn g9
 replace HG := grown_trans HG g9
 have sv9 : Sv 9 [{ target := .fn (.func 97) #[], args := #[] }] [(4, _), (3, _), (0, _), (1, _), (5, _), (7, _), (8, _)] a9 := ⟨hn9, hd9, e9_4, e9_3, e9_0, e9_1, e9_5, e9_7, e9_8q, trivial⟩
 refine tl_as (v := .slice ao10 ((encIdf x)).length cap10) sv9 r6 fun a11 sv11 => ?_
 have sv12 : Sv 9 [{ target := .fn (.func 97) #[], args := #[] }] [(4, _), (1, _)] a11 := sv11.dl [3, 0, 5, 7, 8]
 refine tl_nil ?_
 refine k6 _ _ ?_
 refine wp_ret ?_
 repeat refine then_ret ?_
 refine cx_retD (fn := Try.f82) sv12 (res_tmp (p := 4) Try.results82 sv12 rfl rfl) (inv_of Try.func97 (by kernel_rfl) rfl _ _) (recAId_walk _) ?_
 exact ⟨_, rfl, HG, _, _, rfl, ow10, lo_ow10⟩
theorem appid_on {w0 : World} (x : Idf) (hx : x.ns.size ≤ 1000000) : ∀ W, w0.grownBy W none → Calls Try.prog 82 #[.slice none 0 0, valIdf x] W fun e w' => ∃ v, e = .returned v ∧ W.grownBy w' none ∧ (Sp.row w0.heap.size 5 1 (encIdf x).length (bv (encIdf x))).on w' v := fun W g =>
 (appid_walk x hx W).mono fun e w' ⟨v, h1, h2, ao, cap, h3, h4, h5⟩ => ⟨v, h1, h2, ao, cap, h3, h4, fun k hk => Nat.le_trans g.size (h5 k hk)⟩
set_option maxRecDepth 100000 in
set_option maxHeartbeats 4000000 in
theorem rident_walk (x : Idf) (hx : x.ns.size ≤ 1000000) (w : World) :
   Calls Try.prog 83 #[valIdf x] w fun e w' => NwR w w' (encIdf x) e := by
 have hl := encT_len x.ns (by omega)
 have hl2 := encV_len x.val
 refine cx_enter Try.func83 rfl Try.ntmps83 rfl fun a0 sv0 => ?_
 have HG := World.grownBy.refl w none
 replace sv0 : Sv 10 [] [(0, valIdf x)] a0 := sv0
 refine wp_seq_k fun K1 k1 => ?_
 refine wp_region_lit ?_
 refine tl_box sv0 rfl rfl rfl rfl rfl rfl (tyIdf x) fun a2 w2 B1_2 eq_B1_2 g2 z2 HB1_2 sv2 => ?_
 have lo_B1_2 := nb_lo HG eq_B1_2
 replace HG := grown_trans HG g2
 refine tl_as (v := .slice none 0 0) sv2 r6 fun a3 sv3 => ?_
 refine tl_nil ?_
 refine k1 _ _ ?_
 refine wp_seq_k fun K4 k4 => ?_
 refine rx_tail (sv3.st w2) (by kernel_rfl) 6 [(3, Sp.is (pt B1_2)), (4, Sp.is (.string x.ns)), (5, Sp.row w2.heap.size 5 1 ((encT x.ns)).length (bv ((encT x.ns)))), (6, Sp.is (pk B1_2 1)), (7, Sp.is (xval x.val)), (8, Sp.row w2.heap.size 5 1 ((encV x.val)).length (bv ((encV x.val))))] rfl (by kernel_rfl) (by kernel_rfl) (by kernel_rfl) [] (by kernel_rfl)
   ⟨yf r6 (fun _ => by kernel_rfl), yp (i := 0) r6 (tyStr x.ns) HB1_2 rfl rfl, ox_call (Sp.row w2.heap.size 5 1 ((encT x.ns)).length (bv ((encT x.ns)))) [.string x.ns] rfl rfl trivial ⟨(oy rfl rfl), trivial⟩ (rtext_on x.ns hx) (fun _ _ h => h) (enter_of Try.func100 (by kernel_rfl) rfl), yf r6 (fun _ => by kernel_rfl), yp (i := 1) r6 (tyV2 x.val) HB1_2 rfl rfl, ox_call (Sp.row w2.heap.size 5 1 ((encV x.val)).length (bv ((encV x.val)))) [xval x.val] rfl rfl trivial ⟨(oy rfl rfl), trivial⟩ (rvalue_on x.val) (fun _ _ h => h) (enter_of Try.func101 (by kernel_rfl) rfl), trivial⟩ trivial
   [] (by kernel_rfl) trivial ⟨.inl rfl, .inl rfl, .inl rfl, .inl rfl, .inl rfl, .inl rfl, trivial⟩ (by kernel_rfl) fun a5 w5 g5 st5 nd5 => ?_
 obtain ⟨hn5, hd5, e5_3, e5_4, e5_5, e5_6, e5_7, e5_8, e5_2, e5_1, e5_0, -⟩ := st5
 obtain ⟨ao6, cap6, e5_5q, ow6, fr6⟩ := e5_5
 obtain ⟨ao7, cap7, e5_8q, ow7, fr7⟩ := e5_8
 have ap_ow6_B1_2 := fr_ap fr6 HB1_2
 have lo_ow6 : ∀ k, fpS (.slice ao6 ((encT x.ns)).length cap6) k → w.heap.size ≤ k := fun k hk => Nat.le_trans HG.size (fr6 k hk)
 have ap_ow7_B1_2 := fr_ap fr7 HB1_2
 have lo_ow7 : ∀ k, fpS (.slice ao7 ((encV x.val)).length cap7) k → w.heap.size ≤ k := fun k hk => Nat.le_trans HG.size (fr7 k hk)
 replace HB1_2 := rw_kn g5 HB1_2
 replace HG := grown_trans HG g5
 have sv5 : Sv 10 [] [(2, _), (1, _), (0, _), (5, _), (8, _)] a5 := ⟨hn5, hd5, e5_2, e5_1, e5_0, e5_5q, e5_8q, trivial⟩
 refine tl_app bytesT sv5 rfl rfl rfl rfl rfl rfl rfl rfl ow6 (Sl.of_own ow7) (bv_cells _) (by omega) fun a8 ao8 cap8 w8 ox stp sv8 => ?_
 have ap_ox_B1_2 : ∀ k, fpS (.slice ao8 ((encT x.ns).length + (encV x.val).length) cap8) k → k ≠ B1_2 := fun k hk => (stp.2 k hk).elim (ap_ow6_B1_2 k) (fun h => nh_ne HB1_2 h)
 have lo_ox : ∀ k, fpS (.slice ao8 ((encT x.ns).length + (encV x.val).length) cap8) k → w.heap.size ≤ k := fun k hk => (stp.2 k hk).elim (lo_ow6 k) (fun h => Nat.le_trans HG.size h)
 replace HB1_2 := row_of stp.1 HB1_2 (fun e => ap_ow6_B1_2 _ e.symm rfl)
 replace HG := grown_from HG stp.1 fun k e => lo_ow6 k (e)
 rw [← bv_append, ← List.length_append] at ox
 rw [← List.length_append] at lo_ox
 refine tl_as (v := .slice ao8 ((encT x.ns).length + (encV x.val).length) cap8) sv8 r6 fun a9 sv9 => ?_
 have sv10 : Sv 10 [] [(2, _), (0, _)] a9 := sv9.dl [9, 1, 5, 8]
 refine tl_nil ?_
 refine k4 _ _ ?_
 refine wp_ret ?_
 repeat refine then_ret ?_
 rw [← List.length_append] at sv10
 refine cx_ret (fn := Try.f83) sv10 (res_tmp (p := 2) Try.results83 sv10 rfl rfl) ?_
 exact ⟨_, rfl, HG, _, _, rfl, ox, lo_ox⟩
theorem rident_on {w0 : World} (x : Idf) (hx : x.ns.size ≤ 1000000) : ∀ W, w0.grownBy W none → Calls Try.prog 83 #[valIdf x] W fun e w' => ∃ v, e = .returned v ∧ W.grownBy w' none ∧ (Sp.row w0.heap.size 5 1 (encIdf x).length (bv (encIdf x))).on w' v := fun W g =>
 (rident_walk x hx W).mono fun e w' ⟨v, h1, h2, ao, cap, h3, h4, h5⟩ => ⟨v, h1, h2, ao, cap, h3, h4, fun k hk => Nat.le_trans g.size (h5 k hk)⟩
end Go.Proofs.Yteakoleceoclkaa
