/- Key trees: the law KeytreePunctures. (printed by genlaws.py) -/
import Derived.Test.YteakoleceoclkaaL7
namespace Go.Proofs.Yteakoleceoclkaa
open Go.RowKit Go.Shelf
set_option linter.unusedSimpArgs false
set_option linter.unusedVariables false
attribute [local go_sem] Oper.semAt_some
theorem punOf_bad {l : List Nd} {a : Int} (ha : isAddr a = false) : punOf l a = ([], 1) := by unfold punOf; rw [ha]; rfl
def Sp.tr (l : List Nd) : Sp := ⟨fun w v => ∃ ao cap, v = .agg #[.slice ao l.length cap] ∧ RdT w (.slice ao l.length cap) l, fun _ _ _ hg ⟨ao, cap, h1, h2⟩ => ⟨ao, cap, h1, h2.kn hg⟩⟩
theorem new_on {w0 : World} {k : List Nat} (hk : Dg k) : ∀ W, w0.grownBy W none → Calls Try.prog 21 #[dval k] W fun e W' => ∃ v, e = .returned v ∧ W.grownBy W' none ∧ (Sp.tr [root k]).on W' v := fun W _ =>
  (new_call hk).mono fun e W' ⟨ao, cap, h1, h2, h3⟩ => ⟨_, h1, h3, ao, cap, rfl, tree_nil k ▸ h2⟩
theorem rnew_on {w0 : World} {k : List Nat} (hk : Dg k) : ∀ W, w0.grownBy W none → Calls Try.prog 23 #[dval k] W fun e W' => ∃ v, e = .returned v ∧ W.grownBy W' none ∧ (Sp.tr [root k]).on W' v := fun W _ =>
  (rnew_call hk).mono fun e W' ⟨ao, cap, h1, h2, h3⟩ => ⟨_, h1, h3, ao, cap, rfl, tree_nil k ▸ h2⟩
/-- two variables are set at once -/
theorem pair_set {w W' : World} {A B : Nat} {u v : Value} {a5 a6 : Option Addr} {n5 n6 d5 d6 : Nat} {T : TypeId} (ha : w.heap[A]? = some (.cells #[.slice a5 n5 d5] T (0, 0))) (hb : w.heap[B]? = some (.cells #[.slice a6 n6 d6] T (0, 0))) (hne : A ≠ B) (hW : W' = ((w.setCell ⟨A, 0, none⟩ u).setCell ⟨B, 0, none⟩ v).drew) :
    W'.heap[A]? = some (.cells #[u] T (0, 0)) ∧ W'.heap[B]? = some (.cells #[v] T (0, 0)) ∧ (∀ s l, RdT w s l → RdT W' s l) ∧ True ∧ ∀ w0 : World, w0.grownBy w none → w0.heap.size ≤ A → w0.heap.size ≤ B → w0.grownBy W' none := by
  subst hW
  have g1 := grown_setCell w ⟨A, 0, none⟩ u
  have g2 := grown_setCell (w.setCell ⟨A, 0, none⟩ u) ⟨B, 0, none⟩ v
  have g0 := grown_drew ((w.setCell ⟨A, 0, none⟩ u).setCell ⟨B, 0, none⟩ v)
  have ha1 : (w.setCell ⟨A, 0, none⟩ u).heap[A]? = some (.cells #[u] T (0, 0)) := by
    have := heap_setCell_same w A 0 _ T u ha
    simpa using this
  have hb1 := row_of g1 hb (by simp; omega)
  have hb2 : ((w.setCell ⟨A, 0, none⟩ u).setCell ⟨B, 0, none⟩ v).heap[B]? = some (.cells #[v] T (0, 0)) := by
    have := heap_setCell_same _ B 0 _ T v hb1
    simpa using this
  refine ⟨row_of g0 (row_of g2 ha1 (by simp; omega)) (by simp), row_of g0 hb2 (by simp), fun s l h => ?_, trivial, fun w0 g hA hB => ?_⟩
  · exact (RdT.aside (RdT.aside h ha (fun _ _ => by simp) g1) hb1 (fun _ _ => by simp) g2).kn g0
  · exact grown_trans (grown_newR (grown_newR g g1 hA) g2 hB) g0
set_option maxRecDepth 100000 in
set_option maxHeartbeats 4000000 in
theorem punctures_walk (k : List Nat) (hk : Dg k) (l : List Int) (v : Value) (w : World) (hv : Sl w 1 v l.length (ic l)) :
    Calls Try.prog 5 #[dval k, v] w fun e w' => e = .returned (.bool true) ∧ w.grownBy w' none := by
  have HK := hid hk
  obtain ⟨ao1, cap1, rfl, p1, p2⟩ := hv.shape
  have HV0 := hid hv
  obtain ⟨m, hm⟩ : ∃ m, m = l.length := ⟨_, rfl⟩
  have HM := hid hm
  rw [← hm] at HV0 p1 ⊢
  obtain ⟨C, hC⟩ : ∃ C, C = bv k := ⟨_, rfl⟩
  have TD := hid (show TY Try.prog 29 C (.agg C.toArray) by rw [hC]; exact tyD k hk.1)
  have NC := hid (fun (w0 : World) => new_on (w0 := w0) hk)
  have NR := hid (fun (w0 : World) => rnew_on (w0 := w0) hk)
  unfold dval at NC NR ⊢
  rw [← hC] at NC NR ⊢
  clear hk hv hm hC
  go_enter Try.func5, Try.ntmps5
  refine wp_seq_k fun K0 k0 => ?_
  have HK0 := hid k0
  clear k0
  go_wp2
  refine HK0.out _ _ ?_
  clear HK0
  refine pauseB1 fun W GW B0 => ?_
  refine wp_seq_k fun K1 k1 => ?_
  have HK1 := hid k1
  clear k1
  go_wp2
  refine region_tailU (by kernel_rfl) 62 rfl 6 [none, none, none, none, none, some (Sp.new W.heap.size [.slice none 0 0] 34), some (Sp.new W.heap.size [.slice none 0 0] 34), none, none, none, none, none, some (Sp.is (.agg C.toArray)), some (Sp.tr [root k]), some (Sp.is (.agg C.toArray)), some (Sp.tr [root k]), none, none, none, none, none, none, none, none, none, none, none, none, none, none, none, none, none, none, none, none, none, none, none, none, none, none, none, none, none, none, none, none, none, none, none, none, none, none, none, none, none, none, none, none, none, none] (by kernel_rfl) (by kernel_rfl)
    ⟨ob_loadT rfl rfl trivial ⟨by decide, fun _ _ h => h⟩ (fun w' g => loadsAt TD.out (rangeAt_row (row_of g B0.out (by simp)))) (fun _ => rfl),
     ob_callS (Sp.tr [root k]) [.agg C.toArray] rfl rfl trivial ⟨⟨by decide, fun _ _ h => h⟩, trivial⟩ (NC.out _) (fun _ _ h => h) (enter_of Try.func21 (by kernel_rfl) rfl),
     ob_loadT rfl rfl trivial ⟨by decide, fun _ _ h => h⟩ (fun w' g => loadsAt TD.out (rangeAt_row (row_of g B0.out (by simp)))) (fun _ => rfl),
     ob_callS (Sp.tr [root k]) [.agg C.toArray] rfl rfl trivial ⟨⟨by decide, fun _ _ h => h⟩, trivial⟩ (NR.out _) (fun _ _ h => h) (enter_of Try.func23 (by kernel_rfl) rfl),
     ob_alloc rfl trivial (Nat.le_refl _) (fun a w => by kernel_rfl) (fun _ _ h => h),
     ob_alloc rfl trivial (Nat.le_refl _) (fun a w => by kernel_rfl) (fun _ _ h => h), trivial⟩
    [5, 6] (by kernel_rfl) (LaysAll.at ⟨.inl rfl, .inl rfl, .inl rfl, .inl rfl, .inr ⟨rfl, #[.slice none 0 0], 34, fun a w => by kernel_rfl⟩, .inr ⟨rfl, #[.slice none 0 0], 34, fun a w => by kernel_rfl⟩, trivial⟩) (fun t ht => by simp at ht; rcases ht with rfl | rfl <;> exact ⟨_, rfl, Sp.new_lt⟩)
    [] (by kernel_rfl) (fun _ _ d _ _ h => by cases d <;> exact h) (by kernel_rfl) (fun i hi => absurd hi (by simp)) ?_
  intro xx W1 g1 hx hne
  obtain ⟨A5, e5, b5, h5⟩ := hx 5 _ rfl (by decide)
  obtain ⟨A6, e6, b6, h6⟩ := hx 6 _ rfl (by decide)
  have e12 : xx 12 = .agg C.toArray := hx 12 _ rfl (by decide)
  have e14 : xx 14 = .agg C.toArray := hx 14 _ rfl (by decide)
  obtain ⟨aoa, capa, e13, ta⟩ := hx 13 _ rfl (by decide)
  obtain ⟨aob, capb, e15, tb⟩ := hx 15 _ rfl (by decide)
  have h56 : A5 ≠ A6 := fun h => hne 5 (by simp) 6 (by simp) (by decide) (by rw [e5, e6, h])
  simp only [fillO]
  rw [e5, e6, e12, e13, e14, e15]
  have N56 := hid h56
  have H5 := hid h5
  have H6 := hid h6
  have NB5 := hid b5
  have NB6 := hid b6
  have TA := hid ta
  have TB := hid tb
  have G1 := hid g1
  clear hx hne e5 e6 e12 e13 e14 e15 b5 b6 h5 h6 ta tb g1 h56
  simp only [List.drop_succ_cons, List.drop_zero]
  have RL := hid (show [root k].length = (tree k []).length by rw [tree_nil])
  have ST := hid (show [root k] = tree k [] by rw [tree_nil])
  go_wp2_with (first
    | (refine wpList_storeTYg rfl 34 (.tmp 5) (.tmp 13) rfl rfl rfl (tyT (.slice aoa [root k].length capa) rfl) H5.out rfl ?_; intro W2 g2 h2; have G2 := hid (And.intro g2 h2); clear g2 h2)
    | (refine wpList_storeTYg rfl 34 (.tmp 6) (.tmp 15) rfl rfl rfl (tyT (.slice aob [root k].length capb) rfl) (row_of G2.out.1 H6.out (by have := N56.out; simp; omega)) rfl ?_; intro W3 g3 h3; have G3 := hid (And.intro g3 h3); clear g3 h3)
    | fail)
  try go_frame
  have HT5 := hid (row_of G3.out.1 G2.out.2 (by have := N56.out; simp; omega))
  have HT6 := hid G3.out.2
  have HG := hid (grown_trans GW.out (grown_newR (grown_newR G1.out G2.out.1 NB5.out) G3.out.1 NB6.out))
  have TA3 := hid (RdT.aside (RdT.aside TA.out H5.out (fun _ _ => by simp) G2.out.1) (row_of G2.out.1 H6.out (by have := N56.out; simp; omega)) (fun _ _ => by simp) G3.out.1)
  have TB3 := hid (RdT.aside (RdT.aside TB.out H5.out (fun _ _ => by simp) G2.out.1) (row_of G2.out.1 H6.out (by have := N56.out; simp; omega)) (fun _ _ => by simp) G3.out.1)
  refine HK1.out _ _ ?_
  clear HK1
  obtain ⟨n0, hn0⟩ : ∃ n, n = [root k].length := ⟨_, rfl⟩
  rw [← hn0] at HT5 HT6 TA3 TB3 ⊢
  have HN0 := hid (show n0 = (tree k []).length by rw [hn0, tree_nil])
  replace TA3 := hid (show RdT W3 (.slice aoa n0 capa) (tree k []) by rw [tree_nil]; exact TA3.out)
  replace TB3 := hid (show RdT W3 (.slice aob n0 capb) (tree k []) by rw [tree_nil]; exact TB3.out)
  have LB5 := hid (show w.heap.size ≤ A5 from Nat.le_trans GW.out.size NB5.out)
  have LB6 := hid (show w.heap.size ≤ A6 from Nat.le_trans GW.out.size NB6.out)
  clear hn0 RL ST G2 G3 TA TB H5 H6 G1 NB5 NB6 B0 GW NC NR
  go_wp2
  go_loopw [7, 8, 9, 10, 11] (fun i p q r s wr => ∃ (j : Nat) (S : List Int) (a5 a6 : Option Addr) (c5 c6 n5 : Nat), j ≤ m ∧ j ≤ 8 ∧ i = .int .i64 j ∧ Hid (S.length ≤ j ∧ ∀ a ∈ S, isAddr a = true) ∧ Hid (n5 = (tree k S).length) ∧ Hid (w.grownBy wr none) ∧ Hid (wr.heap[A5]? = some (.cells #[.slice a5 n5 c5] 34 (0, 0))) ∧ Hid (wr.heap[A6]? = some (.cells #[.slice a6 n5 c6] 34 (0, 0))) ∧ Hid (RdT wr (.slice a5 n5 c5) (tree k S)) ∧ Hid (RdT wr (.slice a6 n5 c6) (tree k S))) (fun i _ _ _ _ _ => (m - intOf i).toNat)
  case atStart => exact ⟨0, [], aoa, aob, capa, capb, n0, by omega, by omega, rfl, hid ⟨by simp, by simp⟩, HN0, HG, HT5, HT6, TA3, TB3⟩
  case round =>
    clear HG HT5 HT6 TA3 TB3 HN0
    obtain ⟨j, S, a5, a6, c5, c6, n5, hj, hj8, rfl, HS, HN5, HGR, HT5, HT6, HR5, HR6⟩ := hrel
    by_cases hlt : j < m
    · by_cases h8 : j < 8
      · have hjl : j < l.length := by rw [← HM.out]; exact hlt
        have t1 : decide ((j : Int) < (m : Int)) = true := by simp; omega
        have t2 : decide ((j : Int) < 8) = true := by simp; omega
        obtain ⟨b, off, rfl, hc⟩ := irange (show Sl w 1 (.slice ao1 l.length cap1) l.length (ic l) by rw [← HM.out]; exact HV0.out) hjl
        obtain ⟨x, hx⟩ : ∃ x, x = l[j] := ⟨_, rfl⟩
        rw [← hx] at hc
        have HC := hid (HGR.out.cell hc (by simp))
        obtain ⟨TS, hTS⟩ : ∃ T, T = tree k S := ⟨_, rfl⟩
        have HTS := hid hTS
        have i0 : (0 : Int) ≤ (j : Int) := by omega
        have i1 : (j : Int) < (m : Int) := by omega
        rw [← hTS] at HR5 HR6
        have HX := hid (show isAddr x = true ∨ isAddr x = false by cases isAddr x <;> simp)
        clear hc hjl hx
        rcases HX.out with hb | hb
        · have PO := hid (punOf_tree (k := k) (S := S) (by have := HS.out.1; omega) hb)
          have HS2 := hid (show (x :: S).length ≤ j + 1 ∧ ∀ a ∈ x :: S, isAddr a = true from ⟨by have := HS.out.1; simp; omega, fun a ha => (List.mem_cons.1 ha).elim (fun e => e ▸ hb) (HS.out.2 a)⟩)
          rw [← hTS] at PO
          obtain ⟨RT, hR⟩ : ∃ R, R = tree k (x :: S) := ⟨_, rfl⟩
          rw [← hR] at PO
          have HRq := hid hR
          clear hTS hR hb
          go_wp2
          refine region_tailU (by kernel_rfl) 62 rfl 10 [none, none, none, none, none, none, none, none, some (Sp.new wr.heap.size [.slice none 0 0] 34), none, none, none, none, none, none, none, none, none, none, none, none, none, none, none, none, none, some (Sp.punc (RT, (0 : Int))), some (Sp.is (.agg #[.slice a5 n5 c5])), some (Sp.is (.slice (some ⟨b, off, none⟩) m cap1)), some (Sp.is (.int .i64 (j : Int))), some (Sp.is (.pointer (some ⟨b, off + j, none⟩))), some (Sp.is (.int .i64 x)), some (Sp.punc (RT, (0 : Int))), some (Sp.tree (RT, (0 : Int))), some (Sp.is (.int .i64 ((RT, (0 : Int))).2)), none, none, none, none, none, none, none, none, none, none, none, none, none, none, none, none, none, none, none, none, none, none, none, none, none, none, none] (by kernel_rfl) (by kernel_rfl)
            ⟨ob_loadT rfl rfl trivial ⟨by decide, fun _ _ h => h⟩ (fun w' g => loadsAt (tyT (.slice a5 n5 c5) rfl) (rangeAt_row (row_of g HT5.out (by simp)))) (fun _ => rfl),
             ob_move 1 28 rfl rfl (by decide) trivial (fun _ _ h => h),
             ob_move 7 29 rfl rfl (by decide) trivial (fun _ _ h => h),
             ob_index (p := .slice (some ⟨b, off, none⟩) m cap1) (k := .int .i64 (j : Int)) (v := .pointer (some ⟨b, off + j, none⟩)) rfl rfl trivial ⟨by decide, fun _ _ h => h⟩ ⟨by decide, fun _ _ h => h⟩ (fun _ => by go_simp) (fun _ => rfl),
             ob_loadT rfl rfl trivial ⟨by decide, fun _ _ h => h⟩ (fun w' g => loadsAt (tyI x) (rangeAt_one (g.cell HC.out (by simp)))) (fun _ => rfl),
             ob_callS (Sp.punc (RT, (0 : Int))) [.agg #[.slice a5 n5 c5], .int .i64 x] rfl rfl trivial ⟨⟨by decide, fun _ _ h => h⟩, ⟨by decide, fun _ _ h => h⟩, trivial⟩ (punct_on PO.out HR5.out) (fun _ _ h => h) (enter_of Try.func24 (by kernel_rfl) rfl),
             ob_move 32 26 rfl rfl (by decide) trivial (fun _ _ h => h),
             ob_extract rfl rfl (by decide) trivial (fun w u h => punc_tree w u h),
             ob_extract rfl rfl (by decide) trivial (fun w u h => punc_err w u h),
             ob_alloc rfl trivial (Nat.le_refl _) (fun a w => by kernel_rfl) (fun _ _ h => h), trivial⟩
            [8] (by kernel_rfl) (LaysAll.at ⟨.inl rfl, .inl rfl, .inl rfl, .inl rfl, .inl rfl, .inl rfl, .inl rfl, .inl rfl, .inl rfl, .inr ⟨rfl, #[.slice none 0 0], 34, fun a w => by kernel_rfl⟩, trivial⟩) (fun t ht => by simp at ht; subst ht; exact ⟨_, rfl, Sp.new_lt⟩)
            [8] (by kernel_rfl) (fun _ _ d _ _ h => by cases d <;> exact h) (by kernel_rfl) (fun i hi o ho a w hg hl hs => by obtain rfl := List.mem_singleton.1 hi; obtain rfl := Option.some.inj ho; exact pu_extract (n := 62) rfl rfl (by decide) rfl hl (fun w u h => punc_err w u h)) ?_
          intro xx W3 g3 hx _
          obtain ⟨A8, e8, b8, h8⟩ := hx 8 _ rfl (by decide)
          have e27 : xx 27 = .agg #[.slice a5 n5 c5] := hx 27 _ rfl (by decide)
          have e28 : xx 28 = .slice (some ⟨b, off, none⟩) m cap1 := hx 28 _ rfl (by decide)
          have e29 : xx 29 = .int .i64 (j : Int) := hx 29 _ rfl (by decide)
          have e30 : xx 30 = .pointer (some ⟨b, off + j, none⟩) := hx 30 _ rfl (by decide)
          have e31 : xx 31 = .int .i64 x := hx 31 _ rfl (by decide)
          have e34 : xx 34 = .int .i64 ((RT, (0 : Int))).2 := hx 34 _ rfl (by decide)
          obtain ⟨ao5, cap5, e33, t5⟩ := hx 33 _ rfl (by decide)
          simp only [fillO]
          rw [e8, e27, e28, e29, e30, e31, e33, e34]
          generalize xx 32 = z1 at *
          generalize xx 26 = z2 at *
          have H8 := hid h8
          have NB8 := hid b8
          have T5 := hid t5
          have GG3 := hid g3
          clear hx e8 b8 h8 t5 g3 e27 e28 e29 e30 e31 e33 e34
          simp only [List.drop_succ_cons, List.drop_zero]
          go_wp2_with (first
            | (refine wpList_storeTYg rfl 34 (.tmp 8) (.tmp 33) rfl rfl rfl (tyT (.slice ao5 ((RT, (0 : Int))).1.length cap5) rfl) H8.out rfl ?_; intro W5 g5 h5; have G5 := hid (grown_newR GG3.out g5 NB8.out); have TT5 := hid (And.intro g5 h5); clear g5 h5)
            | fail)
          have L58 := hid (Nat.lt_of_lt_of_le (Array.getElem?_eq_some_iff.1 HT5.out).1 NB8.out)
          have L68 := hid (Nat.lt_of_lt_of_le (Array.getElem?_eq_some_iff.1 HT6.out).1 NB8.out)
          replace HGR := hid (grown_trans HGR.out G5.out)
          replace HT6 := hid (row_of G5.out HT6.out (by simp))
          replace HT5 := hid (row_of G5.out HT5.out (by simp))
          replace HR5 := hid (HR5.out.kn G5.out)
          replace HR6 := hid (HR6.out.kn G5.out)
          replace HC := hid (G5.out.cell HC.out (by simp))
          have P8 := hid (RdT.aside T5.out H8.out (fun _ _ => by simp) TT5.out.1)
          have H8 := hid TT5.out.2
          have NB8 := hid (Nat.le_trans (Array.getElem?_eq_some_iff.1 HT5.out).1 (Nat.le_refl _))
          refine region_tailU (by kernel_rfl) 62 rfl 10 [none, none, none, none, none, none, none, none, none, none, some (Sp.new W5.heap.size [.slice none 0 0] 34), none, none, none, none, none, none, none, none, none, none, none, none, none, none, none, none, none, none, none, none, none, none, none, none, some (Sp.punc (RT, (0 : Int))), some (Sp.is (.agg #[.slice a6 n5 c6])), some (Sp.is (.slice (some ⟨b, off, none⟩) m cap1)), some (Sp.is (.int .i64 (j : Int))), some (Sp.is (.pointer (some ⟨b, off + j, none⟩))), some (Sp.is (.int .i64 x)), some (Sp.punc (RT, (0 : Int))), some (Sp.tree (RT, (0 : Int))), some (Sp.is (.int .i64 ((RT, (0 : Int))).2)), none, none, none, none, none, none, none, none, none, none, none, none, none, none, none, none, none, none] (by kernel_rfl) (by kernel_rfl)
            ⟨ob_loadT rfl rfl trivial ⟨by decide, fun _ _ h => h⟩ (fun w' g => loadsAt (tyT (.slice a6 n5 c6) rfl) (rangeAt_row (row_of g HT6.out (by simp)))) (fun _ => rfl),
             ob_move 1 37 rfl rfl (by decide) trivial (fun _ _ h => h),
             ob_move 7 38 rfl rfl (by decide) trivial (fun _ _ h => h),
             ob_index (p := .slice (some ⟨b, off, none⟩) m cap1) (k := .int .i64 (j : Int)) (v := .pointer (some ⟨b, off + j, none⟩)) rfl rfl trivial ⟨by decide, fun _ _ h => h⟩ ⟨by decide, fun _ _ h => h⟩ (fun _ => by go_simp) (fun _ => rfl),
             ob_loadT rfl rfl trivial ⟨by decide, fun _ _ h => h⟩ (fun w' g => loadsAt (tyI x) (rangeAt_one (g.cell HC.out (by simp)))) (fun _ => rfl),
             ob_callS (Sp.punc (RT, (0 : Int))) [.agg #[.slice a6 n5 c6], .int .i64 x] rfl rfl trivial ⟨⟨by decide, fun _ _ h => h⟩, ⟨by decide, fun _ _ h => h⟩, trivial⟩ (rpunct_on PO.out HR6.out) (fun _ _ h => h) (enter_of Try.func25 (by kernel_rfl) rfl),
             ob_move 41 35 rfl rfl (by decide) trivial (fun _ _ h => h),
             ob_extract rfl rfl (by decide) trivial (fun w u h => punc_tree w u h),
             ob_extract rfl rfl (by decide) trivial (fun w u h => punc_err w u h),
             ob_alloc rfl trivial (Nat.le_refl _) (fun a w => by kernel_rfl) (fun _ _ h => h), trivial⟩
            [10] (by kernel_rfl) (LaysAll.at ⟨.inl rfl, .inl rfl, .inl rfl, .inl rfl, .inl rfl, .inl rfl, .inl rfl, .inl rfl, .inl rfl, .inr ⟨rfl, #[.slice none 0 0], 34, fun a w => by kernel_rfl⟩, trivial⟩) (fun t ht => by simp at ht; subst ht; exact ⟨_, rfl, Sp.new_lt⟩)
            [8] (by kernel_rfl) (fun _ _ d _ _ h => by cases d <;> exact h) (by kernel_rfl) (fun i hi o ho a w hg hl hs => by obtain rfl := List.mem_singleton.1 hi; obtain rfl := Option.some.inj ho; exact pu_extract (n := 62) rfl rfl (by decide) rfl hl (fun w u h => punc_err w u h)) ?_
          intro xx W6 g6 hx _
          obtain ⟨A10, e10, b10, h10⟩ := hx 10 _ rfl (by decide)
          have e36 : xx 36 = .agg #[.slice a6 n5 c6] := hx 36 _ rfl (by decide)
          have e37 : xx 37 = .slice (some ⟨b, off, none⟩) m cap1 := hx 37 _ rfl (by decide)
          have e38 : xx 38 = .int .i64 (j : Int) := hx 38 _ rfl (by decide)
          have e39 : xx 39 = .pointer (some ⟨b, off + j, none⟩) := hx 39 _ rfl (by decide)
          have e40 : xx 40 = .int .i64 x := hx 40 _ rfl (by decide)
          have e43 : xx 43 = .int .i64 ((RT, (0 : Int))).2 := hx 43 _ rfl (by decide)
          obtain ⟨ao7, cap7, e42, t5⟩ := hx 42 _ rfl (by decide)
          simp only [fillO]
          rw [e10, e36, e37, e38, e39, e40, e42, e43]
          generalize xx 41 = z1 at *
          generalize xx 35 = z2 at *
          have H10 := hid h10
          have NB10 := hid b10
          have T7 := hid t5
          have GG6 := hid g6
          clear hx e10 b10 h10 t5 g6 e36 e37 e38 e39 e40 e42 e43
          simp only [List.drop_succ_cons, List.drop_zero]
          go_wp2_with (first
            | (refine wpList_storeTYg rfl 34 (.tmp 10) (.tmp 42) rfl rfl rfl (tyT (.slice ao7 ((RT, (0 : Int))).1.length cap7) rfl) H10.out rfl ?_; intro W7 g5 h5; have G7 := hid (grown_newR GG6.out g5 NB10.out); have TT7 := hid (And.intro g5 h5); clear g5 h5; have c8 : W7.cell? ⟨A8, 0, none⟩ = some (.slice ao5 RT.length cap5) := (by rw [cell_of_row _ _ _ _ _ _ (row_of G7.out H8.out (by simp))]; rfl); have y8 := block_lt_of_cell c8; have c10 : W7.cell? ⟨A10, 0, none⟩ = some (.slice ao7 RT.length cap7) := (by rw [cell_of_row _ _ _ _ _ _ TT7.out.2]; rfl); have y10 := block_lt_of_cell c10)
            | fail)
          have L510 := hid (Nat.lt_of_lt_of_le (Array.getElem?_eq_some_iff.1 HT5.out).1 NB10.out)
          have L610 := hid (Nat.lt_of_lt_of_le (Array.getElem?_eq_some_iff.1 HT6.out).1 NB10.out)
          have P10 := hid (RdT.aside T7.out H10.out (fun _ _ => by simp) TT7.out.1)
          refine (sameTree_walk (P8.out.kn G7.out) P10.out).mono ?_
          rintro e W8 ⟨rfl, g8⟩
          replace HT5 := hid (row_of g8 (row_of G7.out HT5.out (by simp)) (by simp))
          replace HT6 := hid (row_of g8 (row_of G7.out HT6.out (by simp)) (by simp))
          replace HR5 := hid ((HR5.out.kn G7.out).kn g8)
          replace HR6 := hid ((HR6.out.kn G7.out).kn g8)
          replace HGR := hid (grown_trans (grown_trans HGR.out G7.out) g8)
          have D8 := hid (row_of g8 (row_of G7.out H8.out (by simp)) (by simp))
          have D10 := hid (row_of g8 TT7.out.2 (by simp))
          replace P8 := hid ((P8.out.kn G7.out).kn g8)
          replace P10 := hid (P10.out.kn g8)
          clear c8 y8 c10 y10
          go_wp2
          have n58 : ¬ A5 = A8 := by have := L58.out; omega
          have n68 : ¬ A6 = A8 := by have := L68.out; omega
          have n510 : ¬ A5 = A10 := by have := L510.out; omega
          have n610 : ¬ A6 = A10 := by have := L610.out; omega
          have n56 : ¬ A5 = A6 := N56.out
          have m58 : ¬ A8 = A5 := by omega
          have m68 : ¬ A8 = A6 := by omega
          have m510 : ¬ A10 = A5 := by omega
          have m610 : ¬ A10 = A6 := by omega
          have m56 : ¬ A6 = A5 := by omega
          have c8 : W8.cell? ⟨A8, 0, none⟩ = some (.slice ao5 RT.length cap5) := by rw [cell_of_row _ _ _ _ _ _ D8.out]; rfl
          have c10 : W8.cell? ⟨A10, 0, none⟩ = some (.slice ao7 RT.length cap7) := by rw [cell_of_row _ _ _ _ _ _ D10.out]; rfl
          have k5 : W8.cell? ⟨A5, 0, none⟩ = some (.slice a5 n5 c5) := by rw [cell_of_row _ _ _ _ _ _ HT5.out]; rfl
          have k6 : W8.cell? ⟨A6, 0, none⟩ = some (.slice a6 n5 c6) := by rw [cell_of_row _ _ _ _ _ _ HT6.out]; rfl
          have f5 : W8.frozen? ⟨A5, 0, none⟩ = false := frozen_of_row W8 A5 0 _ _ HT5.out
          have f6 : W8.frozen? ⟨A6, 0, none⟩ = false := frozen_of_row W8 A6 0 _ _ HT6.out
          have y5 := block_lt_of_cell k5
          have y6 := block_lt_of_cell k6
          have y8 := block_lt_of_cell c8
          have y10 := block_lt_of_cell c10
          go_region
          all_goals
            obtain ⟨W9, hW9⟩ : ∃ x, x = ((W8.setCell ⟨A5, 0, none⟩ (.slice ao5 RT.length cap5)).setCell ⟨A6, 0, none⟩ (.slice ao7 RT.length cap7)).drew := ⟨_, rfl⟩
            have PW := hid (pair_set HT5.out HT6.out N56.out hW9)
            rw [← hW9]
            clear hW9 c8 c10 k5 k6 f5 f6 y5 y6 y8 y10 n58 n68 n510 n610 n56 m58 m68 m510 m610 m56
            go_wp2
            try go_frame
            go_roundw
            case rel => exact ⟨j + 1, x :: S, ao5, ao7, cap5, cap7, RT.length, by omega, by omega, by go_num, hid HS2.out, hid (by rw [HRq.out]), hid (PW.out.2.2.2.2 _ HGR.out LB5.out LB6.out), hid PW.out.1, hid PW.out.2.1, hid (by rw [← HRq.out]; exact PW.out.2.2.1 _ _ P8.out), hid (by rw [← HRq.out]; exact PW.out.2.2.1 _ _ P10.out)⟩
            case measure => simp [intOf] <;> omega
        · have PO := hid (punOf_bad (l := TS) hb)
          obtain ⟨RT, hR⟩ : ∃ R, R = ([] : List Nd) := ⟨_, rfl⟩
          rw [← hR] at PO
          clear hTS hR hb
          go_wp2
          refine region_tailU (by kernel_rfl) 62 rfl 10 [none, none, none, none, none, none, none, none, some (Sp.new wr.heap.size [.slice none 0 0] 34), none, none, none, none, none, none, none, none, none, none, none, none, none, none, none, none, none, some (Sp.punc (RT, (1 : Int))), some (Sp.is (.agg #[.slice a5 n5 c5])), some (Sp.is (.slice (some ⟨b, off, none⟩) m cap1)), some (Sp.is (.int .i64 (j : Int))), some (Sp.is (.pointer (some ⟨b, off + j, none⟩))), some (Sp.is (.int .i64 x)), some (Sp.punc (RT, (1 : Int))), some (Sp.tree (RT, (1 : Int))), some (Sp.is (.int .i64 ((RT, (1 : Int))).2)), none, none, none, none, none, none, none, none, none, none, none, none, none, none, none, none, none, none, none, none, none, none, none, none, none, none, none] (by kernel_rfl) (by kernel_rfl)
            ⟨ob_loadT rfl rfl trivial ⟨by decide, fun _ _ h => h⟩ (fun w' g => loadsAt (tyT (.slice a5 n5 c5) rfl) (rangeAt_row (row_of g HT5.out (by simp)))) (fun _ => rfl),
             ob_move 1 28 rfl rfl (by decide) trivial (fun _ _ h => h),
             ob_move 7 29 rfl rfl (by decide) trivial (fun _ _ h => h),
             ob_index (p := .slice (some ⟨b, off, none⟩) m cap1) (k := .int .i64 (j : Int)) (v := .pointer (some ⟨b, off + j, none⟩)) rfl rfl trivial ⟨by decide, fun _ _ h => h⟩ ⟨by decide, fun _ _ h => h⟩ (fun _ => by go_simp) (fun _ => rfl),
             ob_loadT rfl rfl trivial ⟨by decide, fun _ _ h => h⟩ (fun w' g => loadsAt (tyI x) (rangeAt_one (g.cell HC.out (by simp)))) (fun _ => rfl),
             ob_callS (Sp.punc (RT, (1 : Int))) [.agg #[.slice a5 n5 c5], .int .i64 x] rfl rfl trivial ⟨⟨by decide, fun _ _ h => h⟩, ⟨by decide, fun _ _ h => h⟩, trivial⟩ (punct_on PO.out HR5.out) (fun _ _ h => h) (enter_of Try.func24 (by kernel_rfl) rfl),
             ob_move 32 26 rfl rfl (by decide) trivial (fun _ _ h => h),
             ob_extract rfl rfl (by decide) trivial (fun w u h => punc_tree w u h),
             ob_extract rfl rfl (by decide) trivial (fun w u h => punc_err w u h),
             ob_alloc rfl trivial (Nat.le_refl _) (fun a w => by kernel_rfl) (fun _ _ h => h), trivial⟩
            [8] (by kernel_rfl) (LaysAll.at ⟨.inl rfl, .inl rfl, .inl rfl, .inl rfl, .inl rfl, .inl rfl, .inl rfl, .inl rfl, .inl rfl, .inr ⟨rfl, #[.slice none 0 0], 34, fun a w => by kernel_rfl⟩, trivial⟩) (fun t ht => by simp at ht; subst ht; exact ⟨_, rfl, Sp.new_lt⟩)
            [8] (by kernel_rfl) (fun _ _ d _ _ h => by cases d <;> exact h) (by kernel_rfl) (fun i hi o ho a w hg hl hs => by obtain rfl := List.mem_singleton.1 hi; obtain rfl := Option.some.inj ho; exact pu_extract (n := 62) rfl rfl (by decide) rfl hl (fun w u h => punc_err w u h)) ?_
          intro xx W3 g3 hx _
          obtain ⟨A8, e8, b8, h8⟩ := hx 8 _ rfl (by decide)
          have e27 : xx 27 = .agg #[.slice a5 n5 c5] := hx 27 _ rfl (by decide)
          have e28 : xx 28 = .slice (some ⟨b, off, none⟩) m cap1 := hx 28 _ rfl (by decide)
          have e29 : xx 29 = .int .i64 (j : Int) := hx 29 _ rfl (by decide)
          have e30 : xx 30 = .pointer (some ⟨b, off + j, none⟩) := hx 30 _ rfl (by decide)
          have e31 : xx 31 = .int .i64 x := hx 31 _ rfl (by decide)
          have e34 : xx 34 = .int .i64 ((RT, (1 : Int))).2 := hx 34 _ rfl (by decide)
          obtain ⟨ao5, cap5, e33, t5⟩ := hx 33 _ rfl (by decide)
          simp only [fillO]
          rw [e8, e27, e28, e29, e30, e31, e33, e34]
          generalize xx 32 = z1 at *
          generalize xx 26 = z2 at *
          have H8 := hid h8
          have NB8 := hid b8
          have T5 := hid t5
          have GG3 := hid g3
          clear hx e8 b8 h8 t5 g3 e27 e28 e29 e30 e31 e33 e34
          simp only [List.drop_succ_cons, List.drop_zero]
          go_wp2_with (first
            | (refine wpList_storeTYg rfl 34 (.tmp 8) (.tmp 33) rfl rfl rfl (tyT (.slice ao5 ((RT, (1 : Int))).1.length cap5) rfl) H8.out rfl ?_; intro W5 g5 h5; have G5 := hid (grown_newR GG3.out g5 NB8.out); have TT5 := hid (And.intro g5 h5); clear g5 h5)
            | fail)
          have L58 := hid (Nat.lt_of_lt_of_le (Array.getElem?_eq_some_iff.1 HT5.out).1 NB8.out)
          have L68 := hid (Nat.lt_of_lt_of_le (Array.getElem?_eq_some_iff.1 HT6.out).1 NB8.out)
          replace HGR := hid (grown_trans HGR.out G5.out)
          replace HT6 := hid (row_of G5.out HT6.out (by simp))
          replace HT5 := hid (row_of G5.out HT5.out (by simp))
          replace HR5 := hid (HR5.out.kn G5.out)
          replace HR6 := hid (HR6.out.kn G5.out)
          replace HC := hid (G5.out.cell HC.out (by simp))
          have P8 := hid (RdT.aside T5.out H8.out (fun _ _ => by simp) TT5.out.1)
          have H8 := hid TT5.out.2
          have NB8 := hid (Nat.le_trans (Array.getElem?_eq_some_iff.1 HT5.out).1 (Nat.le_refl _))
          refine region_tailU (by kernel_rfl) 62 rfl 10 [none, none, none, none, none, none, none, none, none, none, some (Sp.new W5.heap.size [.slice none 0 0] 34), none, none, none, none, none, none, none, none, none, none, none, none, none, none, none, none, none, none, none, none, none, none, none, none, some (Sp.punc (RT, (1 : Int))), some (Sp.is (.agg #[.slice a6 n5 c6])), some (Sp.is (.slice (some ⟨b, off, none⟩) m cap1)), some (Sp.is (.int .i64 (j : Int))), some (Sp.is (.pointer (some ⟨b, off + j, none⟩))), some (Sp.is (.int .i64 x)), some (Sp.punc (RT, (1 : Int))), some (Sp.tree (RT, (1 : Int))), some (Sp.is (.int .i64 ((RT, (1 : Int))).2)), none, none, none, none, none, none, none, none, none, none, none, none, none, none, none, none, none, none] (by kernel_rfl) (by kernel_rfl)
            ⟨ob_loadT rfl rfl trivial ⟨by decide, fun _ _ h => h⟩ (fun w' g => loadsAt (tyT (.slice a6 n5 c6) rfl) (rangeAt_row (row_of g HT6.out (by simp)))) (fun _ => rfl),
             ob_move 1 37 rfl rfl (by decide) trivial (fun _ _ h => h),
             ob_move 7 38 rfl rfl (by decide) trivial (fun _ _ h => h),
             ob_index (p := .slice (some ⟨b, off, none⟩) m cap1) (k := .int .i64 (j : Int)) (v := .pointer (some ⟨b, off + j, none⟩)) rfl rfl trivial ⟨by decide, fun _ _ h => h⟩ ⟨by decide, fun _ _ h => h⟩ (fun _ => by go_simp) (fun _ => rfl),
             ob_loadT rfl rfl trivial ⟨by decide, fun _ _ h => h⟩ (fun w' g => loadsAt (tyI x) (rangeAt_one (g.cell HC.out (by simp)))) (fun _ => rfl),
             ob_callS (Sp.punc (RT, (1 : Int))) [.agg #[.slice a6 n5 c6], .int .i64 x] rfl rfl trivial ⟨⟨by decide, fun _ _ h => h⟩, ⟨by decide, fun _ _ h => h⟩, trivial⟩ (rpunct_on PO.out HR6.out) (fun _ _ h => h) (enter_of Try.func25 (by kernel_rfl) rfl),
             ob_move 41 35 rfl rfl (by decide) trivial (fun _ _ h => h),
             ob_extract rfl rfl (by decide) trivial (fun w u h => punc_tree w u h),
             ob_extract rfl rfl (by decide) trivial (fun w u h => punc_err w u h),
             ob_alloc rfl trivial (Nat.le_refl _) (fun a w => by kernel_rfl) (fun _ _ h => h), trivial⟩
            [10] (by kernel_rfl) (LaysAll.at ⟨.inl rfl, .inl rfl, .inl rfl, .inl rfl, .inl rfl, .inl rfl, .inl rfl, .inl rfl, .inl rfl, .inr ⟨rfl, #[.slice none 0 0], 34, fun a w => by kernel_rfl⟩, trivial⟩) (fun t ht => by simp at ht; subst ht; exact ⟨_, rfl, Sp.new_lt⟩)
            [8] (by kernel_rfl) (fun _ _ d _ _ h => by cases d <;> exact h) (by kernel_rfl) (fun i hi o ho a w hg hl hs => by obtain rfl := List.mem_singleton.1 hi; obtain rfl := Option.some.inj ho; exact pu_extract (n := 62) rfl rfl (by decide) rfl hl (fun w u h => punc_err w u h)) ?_
          intro xx W6 g6 hx _
          obtain ⟨A10, e10, b10, h10⟩ := hx 10 _ rfl (by decide)
          have e36 : xx 36 = .agg #[.slice a6 n5 c6] := hx 36 _ rfl (by decide)
          have e37 : xx 37 = .slice (some ⟨b, off, none⟩) m cap1 := hx 37 _ rfl (by decide)
          have e38 : xx 38 = .int .i64 (j : Int) := hx 38 _ rfl (by decide)
          have e39 : xx 39 = .pointer (some ⟨b, off + j, none⟩) := hx 39 _ rfl (by decide)
          have e40 : xx 40 = .int .i64 x := hx 40 _ rfl (by decide)
          have e43 : xx 43 = .int .i64 ((RT, (1 : Int))).2 := hx 43 _ rfl (by decide)
          obtain ⟨ao7, cap7, e42, t5⟩ := hx 42 _ rfl (by decide)
          simp only [fillO]
          rw [e10, e36, e37, e38, e39, e40, e42, e43]
          generalize xx 41 = z1 at *
          generalize xx 35 = z2 at *
          have H10 := hid h10
          have NB10 := hid b10
          have T7 := hid t5
          have GG6 := hid g6
          clear hx e10 b10 h10 t5 g6 e36 e37 e38 e39 e40 e42 e43
          simp only [List.drop_succ_cons, List.drop_zero]
          go_wp2_with (first
            | (refine wpList_storeTYg rfl 34 (.tmp 10) (.tmp 42) rfl rfl rfl (tyT (.slice ao7 ((RT, (1 : Int))).1.length cap7) rfl) H10.out rfl ?_; intro W7 g5 h5; have G7 := hid (grown_newR GG6.out g5 NB10.out); have TT7 := hid (And.intro g5 h5); clear g5 h5; have c8 : W7.cell? ⟨A8, 0, none⟩ = some (.slice ao5 RT.length cap5) := (by rw [cell_of_row _ _ _ _ _ _ (row_of G7.out H8.out (by simp))]; rfl); have y8 := block_lt_of_cell c8; have c10 : W7.cell? ⟨A10, 0, none⟩ = some (.slice ao7 RT.length cap7) := (by rw [cell_of_row _ _ _ _ _ _ TT7.out.2]; rfl); have y10 := block_lt_of_cell c10)
            | fail)
          have L510 := hid (Nat.lt_of_lt_of_le (Array.getElem?_eq_some_iff.1 HT5.out).1 NB10.out)
          have L610 := hid (Nat.lt_of_lt_of_le (Array.getElem?_eq_some_iff.1 HT6.out).1 NB10.out)
          have P10 := hid (RdT.aside T7.out H10.out (fun _ _ => by simp) TT7.out.1)
          refine (sameTree_walk (P8.out.kn G7.out) P10.out).mono ?_
          rintro e W8 ⟨rfl, g8⟩
          replace HT5 := hid (row_of g8 (row_of G7.out HT5.out (by simp)) (by simp))
          replace HT6 := hid (row_of g8 (row_of G7.out HT6.out (by simp)) (by simp))
          replace HR5 := hid ((HR5.out.kn G7.out).kn g8)
          replace HR6 := hid ((HR6.out.kn G7.out).kn g8)
          replace HGR := hid (grown_trans (grown_trans HGR.out G7.out) g8)
          have D8 := hid (row_of g8 (row_of G7.out H8.out (by simp)) (by simp))
          have D10 := hid (row_of g8 TT7.out.2 (by simp))
          replace P8 := hid ((P8.out.kn G7.out).kn g8)
          replace P10 := hid (P10.out.kn g8)
          clear c8 y8 c10 y10
          go_wp2
          try go_frame
          go_roundw
          case rel => exact ⟨j + 1, S, a5, a6, c5, c6, n5, by omega, by omega, by go_num, hid ⟨by have := HS.out.1; omega, HS.out.2⟩, HN5, HGR, HT5, HT6, hid (by rw [← HTS.out]; exact HR5.out), hid (by rw [← HTS.out]; exact HR6.out)⟩
          case measure => simp [intOf] <;> omega
      · have t1 : decide ((j : Int) < (m : Int)) = true := by simp; omega
        have t2 : decide ((j : Int) < 8) = false := by simp; omega
        have HVL := hid (show vld (tree k S) = true from tree_vld_of k S (by have := HS.out.1; omega))
        obtain ⟨TS, hTS⟩ : ∃ T, T = tree k S := ⟨_, rfl⟩
        rw [← hTS] at HVL HR5
        clear hTS
        have cB : wr.cell? ⟨A5, 0, none⟩ = some (.slice a5 n5 c5) := by rw [cell_of_row _ _ _ _ _ _ HT5.out]; rfl
        have yB := block_lt_of_cell cB
        go_wp2_with fail
        refine (valid_call HR5.out).mono ?_
        rintro e W4 ⟨rfl, g4⟩
        rw [HVL.out]
        clear cB yB
        go_wp2_with fail
        refine (awake_walk W4).mono ?_
        rintro e W9 ⟨rfl, g9⟩
        go_wp2
        go_ret
        exact ⟨rfl, grown_trans (grown_trans HGR.out g4) g9⟩
    · obtain rfl : m = j := by omega
      have t1 : decide ((m : Int) < (m : Int)) = false := by simp
      have HVL := hid (show vld (tree k S) = true from tree_vld_of k S (by have := HS.out.1; omega))
      obtain ⟨TS, hTS⟩ : ∃ T, T = tree k S := ⟨_, rfl⟩
      rw [← hTS] at HVL HR5
      clear hTS
      have cB : wr.cell? ⟨A5, 0, none⟩ = some (.slice a5 n5 c5) := by rw [cell_of_row _ _ _ _ _ _ HT5.out]; rfl
      have yB := block_lt_of_cell cB
      go_wp2_with fail
      refine (valid_call HR5.out).mono ?_
      rintro e W4 ⟨rfl, g4⟩
      rw [HVL.out]
      clear cB yB
      go_wp2_with fail
      refine (awake_walk W4).mono ?_
      rintro e W9 ⟨rfl, g9⟩
      go_wp2
      go_ret
      exact ⟨rfl, grown_trans (grown_trans HGR.out g4) g9⟩
end Go.Proofs.Yteakoleceoclkaa
