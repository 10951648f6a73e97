/- Key trees: others of the program. -/
import Derived.Test.YteakoleceoclkaaK12r
namespace Go.Proofs.Yteakoleceoclkaa
open Go.RowKit Go.Shelf
set_option linter.unusedSimpArgs false
set_option linter.unusedVariables false
attribute [local go_sem] Oper.semAt_some

theorem nodesT : ET Try.prog 32 91 (nval ⟨0, 0, zs 32⟩) 34 48 := ⟨Try.underlying32, info_parts (by kernel_rfl), rfl, by decide, by decide⟩
theorem ncells_one (n : Nd) : (ncells n).all Value.oneCell' = true := by
  unfold ncells
  rw [List.all_cons, List.all_cons, List.all_eq_true.2 (fun v hv => bv_ones n.k v hv)]
  rfl
/-- what is known between two rounds of others -/
structure OI (w : World) (B : Nat) (a : Int) (n0 : Nd) (n : Nd) (L R : List Nd) (s g : Value) (wr : World) : Prop where
  ok : okN n = true
  dg : Dg n.k
  dn : downP a (34 - n.d).toNat n L R = downP a (34 - n0.d).toNat n0 [] []
  len : L.length + R.length + (34 - n.d).toNat ≤ 34
  dl : ∀ x ∈ L, Dg x.k
  dr : ∀ x ∈ R, Dg x.k
  gr : w.grownBy wr none
  hb : wr.heap[B]? = some (.cells (ncells n).toArray 91 (0, 0))
  os : Own wr 91 34 s L.length (tcells L)
  og : Own wr 91 34 g R.length (tcells R)
  bs : ∀ k, s.ownBlock = some k → w.heap.size ≤ k ∧ k ≠ B
  bg : ∀ k, g.ownBlock = some k → w.heap.size ≤ k ∧ k ≠ B
  sg : ∀ k, s.ownBlock = some k → g.ownBlock ≠ some k
theorem Own.skip {w w' : World} {e : TypeId} {sz : Nat} {v : Value} {n : Nat} {xs : List Value} {row : Option Nat} (h : Own w e sz v n xs) (g : w.grownBy w' row) (hne : ∀ k, v.ownBlock = some k → row ≠ some k) : Own w' e sz v n xs :=
  h.kept g (by
    cases hv : v.ownBlock with
    | none => exact .inl rfl
    | some k => exact .inr (fun e => hne k hv e.symm))
theorem OI.kn {w wr W : World} {B : Nat} {a : Int} {n0 n : Nd} {L R : List Nd} {s g : Value} (h : OI w B a n0 n L R s g wr) (k : wr.grownBy W none) : OI w B a n0 n L R s g W :=
  ⟨h.ok, h.dg, h.dn, h.len, h.dl, h.dr, grown_trans h.gr k, row_of k h.hb (by simp), h.os.kn k, h.og.kn k, h.bs, h.bg, h.sg⟩
theorem OI.right {w wr W4 W5 : World} {B : Nat} {a : Int} {n0 n : Nd} {L R : List Nd} {s g s' : Value} (hB : w.heap.size ≤ B) (h : OI w B a n0 n L R s g wr) (hbit : bit n a = true) (hd : n.d < 34)
    (o4 : Own W4 91 34 s' (L.length + 1) (tcells L ++ ncells (child n false))) (s4 : Step wr s W4 s') (g5 : W4.grownBy W5 (some B)) (h5 : W5.heap[B]? = some (.cells (ncells (child n true)).toArray 91 (0, 0))) :
    OI w B a n0 (child n true) (L ++ [child n false]) R s' g W5 := by
  have hB2 : B < wr.heap.size := (ncell0 h.hb).2.2
  have hs' : ∀ k, s'.ownBlock = some k → s.ownBlock = some k ∨ wr.heap.size ≤ k := s4.2
  obtain ⟨o1, o2, o3, o4'⟩ := okN_iff.1 h.ok
  have hk : (34 - n.d).toNat = (34 - (child n true).d).toNat + 1 := by simp [child]; omega
  refine ⟨okN_child _ h.ok (by omega), child_dg _ _, ?_, ?_, ?_, h.dr, ?_, h5, ?_, ?_, ?_, h.bg, ?_⟩
  · rw [← h.dn, hk, downP, if_pos hbit]
  · have := h.len; rw [hk] at this; rw [List.length_append, List.length_singleton]; omega
  · intro x hx
    rcases List.mem_append.1 hx with hx | hx
    · exact h.dl x hx
    · obtain rfl := List.mem_singleton.1 hx; exact child_dg _ _
  · refine grown_from (grown_from h.gr s4.1 fun r e => (h.bs r e).1) g5 fun r e => by cases e; exact hB
  · rw [List.length_append, List.length_singleton, tcells_append, tcells_one]
    refine o4.skip g5 fun k hk e => ?_
    cases e
    rcases hs' _ hk with h0 | h0
    · exact (h.bs _ h0).2 rfl
    · omega
  · refine (h.og.skip s4.1 fun k hk e => h.sg k e hk).skip g5 fun k hk e => ?_
    cases e
    exact (h.bg _ hk).2 rfl
  · intro k hk
    rcases hs' k hk with h0 | h0
    · exact h.bs k h0
    · have := h.gr.size; omega
  · intro k hk e
    rcases hs' k hk with h0 | h0
    · exact h.sg k h0 e
    · have := Own.lt h.og k e; omega
theorem OI.left {w wr W4 W5 : World} {B : Nat} {a : Int} {n0 n : Nd} {L R : List Nd} {s g g' : Value} (hB : w.heap.size ≤ B) (h : OI w B a n0 n L R s g wr) (hbit : bit n a = false) (hd : n.d < 34)
    (o4 : Own W4 91 34 g' (R.length + 1) (tcells R ++ ncells (child n true))) (s4 : Step wr g W4 g') (g5 : W4.grownBy W5 (some B)) (h5 : W5.heap[B]? = some (.cells (ncells (child n false)).toArray 91 (0, 0))) :
    OI w B a n0 (child n false) L (R ++ [child n true]) s g' W5 := by
  have hB2 : B < wr.heap.size := (ncell0 h.hb).2.2
  have hs' : ∀ k, g'.ownBlock = some k → g.ownBlock = some k ∨ wr.heap.size ≤ k := s4.2
  obtain ⟨o1, o2, o3, o4'⟩ := okN_iff.1 h.ok
  have hk : (34 - n.d).toNat = (34 - (child n false).d).toNat + 1 := by simp [child]; omega
  refine ⟨okN_child _ h.ok (by omega), child_dg _ _, ?_, ?_, h.dl, ?_, ?_, h5, ?_, ?_, h.bs, ?_, ?_⟩
  · rw [← h.dn, hk, downP, if_neg (by rw [hbit]; decide)]
  · have := h.len; rw [hk] at this; rw [List.length_append, List.length_singleton]; omega
  · intro x hx
    rcases List.mem_append.1 hx with hx | hx
    · exact h.dr x hx
    · obtain rfl := List.mem_singleton.1 hx; exact child_dg _ _
  · refine grown_from (grown_from h.gr s4.1 fun r e => (h.bg r e).1) g5 fun r e => by cases e; exact hB
  · refine (h.os.skip s4.1 fun k hk e => h.sg k hk e).skip g5 fun k hk e => ?_
    cases e
    exact (h.bs _ hk).2 rfl
  · rw [List.length_append, List.length_singleton, tcells_append, tcells_one]
    refine o4.skip g5 fun k hk e => ?_
    cases e
    rcases hs' _ hk with h0 | h0
    · exact (h.bg _ h0).2 rfl
    · omega
  · intro k hk
    rcases hs' k hk with h0 | h0
    · exact h.bg k h0
    · have := h.gr.size; omega
  · intro k hk e
    rcases hs' k e with h0 | h0
    · exact h.sg k hk h0
    · have := Own.lt h.os k hk; omega
set_option maxRecDepth 100000 in
set_option maxHeartbeats 4000000 in
theorem others_walk (n : Nd) (a : Int) (hk : Dg n.k) (ho : okN n = true) (ha : 0 ≤ a ∧ a < 17179869184) (w : World) :
    Calls Try.prog 62 #[nval n, .int .i64 a] w fun e w' => ∃ v, e = .returned v ∧ Own w' 91 34 v (oth a (34 - n.d).toNat n).length (tcells (oth a (34 - n.d).toNat n)) ∧ Fresh w w' v := by
  obtain ⟨C, hC⟩ : ∃ C, C = ncells n := ⟨_, rfl⟩
  have HC := hid hC
  have AB := hid ha
  obtain ⟨o1, o2, o3, o4⟩ := okN_iff.1 ho
  have HS := hid (downP_oth a (34 - n.d).toNat n [] [])
  obtain ⟨B, hB⟩ : ∃ B, B = w.heap.size := ⟨_, rfl⟩
  have HBq := hid hB
  obtain ⟨w1, hw1⟩ : ∃ x, x = w.alloc (.cells C.toArray 91) := ⟨_, rfl⟩
  have HW1 := hid (show OI w B a n n [] [] (.slice none 0 0) (.slice none 0 0) w1 from
    ⟨ho, hk, rfl, by simp; omega, by simp, by simp, by rw [hw1]; exact World.grownBy_alloc _ _ _, by rw [hw1, hB, World.alloc_heap_new, hC], World.ownsRow_nil _ _ _ _, World.ownsRow_nil _ _ _ _, fun k h => (by simp [Value.ownBlock] at h), fun k h => (by simp [Value.ownBlock] at h), fun k h => (by simp [Value.ownBlock] at h)⟩)
  have HZ := hid hw1
  unfold nval
  rw [← hC]
  clear hC hB hw1 hk ho ha o1 o2 o3 o4
  go_enter Try.func62, Try.ntmps62
  go_wp2
  rw [← HBq.out, ← HZ.out]
  go_loopw [5, 6, 7, 8] (fun s g p q wr => ∃ (n' : Nd) (L R : List Nd) (sa : Option Addr) (sc : Nat) (ga : Option Addr) (gc : Nat), s = .slice sa L.length sc ∧ g = .slice ga R.length gc ∧ Hid (OI w B a n n' L R (.slice sa L.length sc) (.slice ga R.length gc) wr)) (fun s g p q wr => (34 - intOf ((wr.cell? ⟨B, 0, none⟩).getD undef)).toNat)
  case atStart => exact ⟨n, [], [], none, 0, none, 0, rfl, rfl, HW1⟩
  case round =>
    obtain ⟨n', L, R, sa, sc, ga, gc, rfl, rfl, HI⟩ := hrel
    obtain ⟨c0, c1, y0⟩ := ncell0 HI.out.hb
    have HO := hid HI.out.ok
    obtain ⟨o1, o2, o3, o4⟩ := okN_iff.1 HO.out
    have o5 := okN_p HO.out
    have MU := hid (show intOf ((wr.cell? ⟨B, 0, none⟩).getD undef) = n'.d by rw [c0]; rfl)
    clear HW1
    by_cases hlt : n'.d < 34
    · have t1 : decide (n'.d < 34) = true := decide_eq_true hlt
      clear o4
      obtain ⟨NV, hNV⟩ : ∃ x, x = nval n' := ⟨_, rfl⟩
      obtain ⟨CF, hCF⟩ : ∃ x, x = child n' false := ⟨_, rfl⟩
      obtain ⟨CT, hCT⟩ : ∃ x, x = child n' true := ⟨_, rfl⟩
      have HCF := hid hCF
      have HCT := hid hCT
      have TN := hid (tyN n' HI.out.dg.1)
      have DF := hid (show Dg CF.k by rw [hCF]; exact child_dg _ _)
      have DT := hid (show Dg CT.k by rw [hCT]; exact child_dg _ _)
      have WF := hid (fun W => child_walk n' false HI.out.dg ⟨o1, o2⟩ ⟨o3, o5⟩ W)
      have WT := hid (fun W => child_walk n' true HI.out.dg ⟨o1, o2⟩ ⟨o3, o5⟩ W)
      rw [← hCF] at WF
      rw [← hCT] at WT
      have WR := hid (fun W => isRight_walk n' a ⟨o1, by omega⟩ AB.out W)
      have HL := hid (show ∀ w', wr.grownBy w' none → (Instr.loadAt 91 (.pointer (some ⟨B, 0, none⟩))).run Try.prog w' = .ok (nval n') w' from fun w' g => loadsAt TN.out (rangeAt_row (row_of g HI.out.hb (by simp))))
      clear hCF hCT hNV
      refine wp_seq_k fun K1 k1 => ?_
      have HK1 := hid k1
      clear k1
      go_wp2
      refine HK1.out _ _ ?_
      clear HK1 c0 c1 y0 t1
      refine wp_block ?_
      refine wp_seq_k fun K2 k2 => ?_
      have HK2 := hid k2
      clear k2
      refine region_tail (by kernel_rfl) 34 rfl 6 [none, none, none, none, none, none, none, some (Sp.new wr.heap.size (ncells ⟨0, 0, zs 32⟩) 91), some (Sp.new wr.heap.size (ncells ⟨0, 0, zs 32⟩) 91), none, none, none, some (Sp.is (nval n')), some (Sp.is (nval CF)), some (Sp.is (nval n')), some (Sp.is (nval CT)), none, none, none, none, none, none, none, none, none, none, none, none, none, none, none, none, none, none]
        (by kernel_rfl) (by kernel_rfl) (by kernel_rfl)
        ⟨ob_loadT rfl rfl trivial ⟨by decide, fun _ _ h => h⟩ HL.out (fun _ => rfl),
         ob_call2 [nval n', .bool false] rfl rfl trivial ⟨⟨by decide, fun _ _ h => h⟩, rfl, trivial⟩ (fun W _ => (WF.out W).mono fun e W' ⟨h1, h2⟩ => ⟨_, h1, h2, rfl⟩) (enter_of Try.func56 (by kernel_rfl) rfl),
         ob_loadT rfl rfl trivial ⟨by decide, fun _ _ h => h⟩ HL.out (fun _ => rfl),
         ob_call2 [nval n', .bool true] rfl rfl trivial ⟨⟨by decide, fun _ _ h => h⟩, rfl, trivial⟩ (fun W _ => (WT.out W).mono fun e W' ⟨h1, h2⟩ => ⟨_, h1, h2, rfl⟩) (enter_of Try.func56 (by kernel_rfl) rfl),
         ob_alloc rfl trivial (Nat.le_refl _) (fun a w => by kernel_rfl) (fun _ _ h => h),
         ob_alloc rfl trivial (Nat.le_refl _) (fun a w => by kernel_rfl) (fun _ _ h => h), trivial⟩
        [7, 8] (by kernel_rfl) (LaysAll.at ⟨.inl rfl, .inl rfl, .inl rfl, .inl rfl, .inr ⟨rfl, (ncells ⟨0, 0, zs 32⟩).toArray, 91, fun a w => by kernel_rfl⟩, .inr ⟨rfl, (ncells ⟨0, 0, zs 32⟩).toArray, 91, fun a w => by kernel_rfl⟩, trivial⟩) (fun t ht => by simp at ht; rcases ht with rfl | rfl <;> exact ⟨_, rfl, Sp.new_lt⟩) ?rest
      case rest =>
        intro x W3 g3 hx hne
        obtain ⟨A7, e7, b7, h7⟩ := hx 7 _ rfl (by decide)
        obtain ⟨A8, e8, b8, h8⟩ := hx 8 _ rfl (by decide)
        have e12 : x 12 = nval n' := hx 12 _ rfl (by decide)
        have e13 : x 13 = nval CF := hx 13 _ rfl (by decide)
        have e14 : x 14 = nval n' := hx 14 _ rfl (by decide)
        have e15 : x 15 = nval CT := hx 15 _ rfl (by decide)
        have hne := hne 7 (by decide) 8 (by decide) (by decide)
        rw [e7, e8] at hne
        have HNE := hid (show A7 ≠ A8 from fun e => hne (by rw [e]))
        simp only [fillO]
        rw [e7, e8, e12, e13, e14, e15]
        have H7 := hid h7
        have H8 := hid h8
        have G3 := hid g3
        have NB7 := hid b7
        have NB8 := hid b8
        clear hx e7 e8 e12 e13 e14 e15 hne h7 h8 g3 b7 b8 HL WF WT
        simp only [List.drop_succ_cons, List.drop_zero]
        go_wp2_with (first
          | (refine wpList_storeTYg rfl 91 (.tmp 7) (.tmp 13) rfl rfl rfl (tyN CF DF.out.1) H7.out (by rw [List.size_toArray, ncells_len _ (by simp [zs]), ncells_len _ DF.out.1]) ?_; intro W4 g4 h4; have G4 := hid g4; have P4 := hid h4; have Q4 := hid (row_of g4 H8.out (fun e => HNE.out (Option.some.inj e).symm)); clear g4 h4)
          | (refine wpList_storeTYg rfl 91 (.tmp 8) (.tmp 15) rfl rfl rfl (tyN CT DT.out.1) Q4.out (by rw [List.size_toArray, ncells_len _ (by simp [zs]), ncells_len _ DT.out.1]) ?_; intro W5 g5 h5; have G5 := hid g5; have P8 := hid h5; have P7 := hid (row_of g5 P4.out (fun e => HNE.out (Option.some.inj e))); clear g5 h5)
          | fail)
        have GW := hid (grown_newR (grown_newR G3.out G4.out NB7.out) G5.out NB8.out)
        have HI5 := hid (HI.out.kn GW.out)
        refine HK2.out _ _ ?_
        clear HK2 H7 H8 Q4 P4 G3 G4 G5
        refine wp_seq_k fun K3 k3 => ?_
        have HK3 := hid k3
        clear k3
        go_wp2_with (first
          | (refine wpList_loadTY rfl 91 (.tmp 2) rfl rfl TN.out HI5.out.hb ?_)
          | fail)
        refine (WR.out _).mono ?_
        rintro e W6 ⟨rfl, g6⟩
        have HI6 := hid (HI5.out.kn g6)
        have P7 := hid (row_of g6 P7.out (by simp))
        have P8 := hid (row_of g6 P8.out (by simp))
        have HLEN := hid HI6.out.len
        have HBB := hid (show w.heap.size ≤ B by rw [HBq.out]; exact Nat.le_refl _)
        obtain ⟨l1, hl1⟩ : ∃ x, x = L.length := ⟨_, rfl⟩
        obtain ⟨l2, hl2⟩ : ∃ x, x = R.length := ⟨_, rfl⟩
        have HLl1 := hid hl1
        have HLl2 := hid hl2
        have OS := hid (show Own W6 91 34 (.slice sa l1 sc) l1 (tcells L) from by rw [hl1]; exact HI6.out.os)
        have OG := hid (show Own W6 91 34 (.slice ga l2 gc) l2 (tcells R) from by rw [hl2]; exact HI6.out.og)
        have ES := hid (show l1 + 1 ≤ 1099511627776 from by have := HLEN.out; omega)
        have EG := hid (show l2 + 1 ≤ 1099511627776 from by have := HLEN.out; omega)
        have SQ := hid (show some A8 ≠ (Value.slice sa l1 sc).ownBlock from fun e => by have h := Own.lt HI.out.os _ (show (Value.slice sa L.length sc).ownBlock = some A8 from by have h := e.symm; rw [hl1] at h; exact h); have h2 := NB8.out; omega)
        have GQ := hid (show some A7 ≠ (Value.slice ga l2 gc).ownBlock from fun e => by have h := Own.lt HI.out.og _ (show (Value.slice ga R.length gc).ownBlock = some A7 from by have h := e.symm; rw [hl2] at h; exact h); have h2 := NB7.out; omega)
        have SB := hid (show some B ≠ (Value.slice sa l1 sc).ownBlock from fun e => (HI6.out.bs _ (by rw [← hl1]; exact e.symm)).2 rfl)
        have GB := hid (show some B ≠ (Value.slice ga l2 gc).ownBlock from fun e => (HI6.out.bg _ (by rw [← hl2]; exact e.symm)).2 rfl)
        rw [← hl1, ← hl2]
        clear g6 GW hl1 hl2 o1 o3 o5 o2
        go_wp2
        refine HK3.out _ _ ?_
        clear HK3
        by_cases hbit : bit n' a = true
        · have HBT := hid hbit
          rw [hbit]
          clear hbit
          go_wp2_with (first
            | (refine wpList_loadTY rfl 91 (.tmp 7) rfl rfl (tyN CF DF.out.1) P7.out ?_)
            | (refine wpList_buildSliceR rfl 32 1 _ rfl #[(0, nval CF)] (by simp only [List.map_toArray, List.map_cons, List.map_nil, Act.eval]; rfl) (bS1 CF DF.out.1 _) ?_)
            | (refine wpList_pushH nodesT rfl (.tmp 19) (.tmp 21) rfl (.slice sa l1 sc) l1 (tcells L) rfl OS.out (ncells CF) 1 _ rfl rfl (by rw [ncells_len _ DF.out.1]) (ncells_one _) ES.out ?_; intro v3 w3 o3 s3; obtain ⟨ad3, cp3, rfl, _⟩ := (Sl.of_own o3).shape; have O3 := hid o3; have S3 := hid s3; have Q3 := hid (row_of s3.1 P8.out SQ.out); have B3 := hid (row_of s3.1 HI6.out.hb SB.out); clear o3 s3)
            | (refine wpList_loadTY rfl 91 (.tmp 8) rfl rfl (tyN CT DT.out.1) Q3.out ?_)
            | (refine wpList_storeTYg rfl 91 (.tmp 2) (.tmp 23) rfl rfl rfl (tyN CT DT.out.1) B3.out (by rw [List.size_toArray, ncells_len _ HI6.out.dg.1, ncells_len _ DT.out.1]) ?_; intro w4 g4 h4; have G4 := hid g4; have H4 := hid h4; clear g4 h4)
            | fail)
          have RR := HI6.out.right HBB.out HBT.out hlt (by rw [← HLl1.out, ← HCF.out]; exact O3.out) (by rw [← HLl1.out]; exact S3.out) G4.out (by rw [← HCT.out]; exact H4.out)
          have c10 := (ncell0 H4.out).1
          go_frame
          go_roundw
          case rel =>
            have hl : (L ++ [child n' false]).length = l1 + 1 := by rw [List.length_append, ← HLl1.out]; rfl
            exact ⟨child n' true, L ++ [child n' false], R, ad3, cp3, ga, gc, by rw [hl], by rw [← HLl2.out], hid (by rw [hl]; exact RR)⟩
          case measure =>
            rw [MU.out, c10, HCT.out]
            show (34 - (n'.d + 1)).toNat < (34 - n'.d).toNat
            omega
        · have HBT := hid (show bit n' a = false by simpa using hbit)
          rw [HBT.out]
          clear hbit
          go_wp2_with (first
            | (refine wpList_loadTY rfl 91 (.tmp 8) rfl rfl (tyN CT DT.out.1) P8.out ?_)
            | (refine wpList_buildSliceR rfl 32 1 _ rfl #[(0, nval CT)] (by simp only [List.map_toArray, List.map_cons, List.map_nil, Act.eval]; rfl) (bS1 CT DT.out.1 _) ?_)
            | (refine wpList_pushH nodesT rfl (.tmp 24) (.tmp 26) rfl (.slice ga l2 gc) l2 (tcells R) rfl OG.out (ncells CT) 1 _ rfl rfl (by rw [ncells_len _ DT.out.1]) (ncells_one _) EG.out ?_; intro v3 w3 o3 s3; obtain ⟨ad3, cp3, rfl, _⟩ := (Sl.of_own o3).shape; have O3 := hid o3; have S3 := hid s3; have Q3 := hid (row_of s3.1 P7.out GQ.out); have B3 := hid (row_of s3.1 HI6.out.hb GB.out); clear o3 s3)
            | (refine wpList_loadTY rfl 91 (.tmp 7) rfl rfl (tyN CF DF.out.1) Q3.out ?_)
            | (refine wpList_storeTYg rfl 91 (.tmp 2) (.tmp 28) rfl rfl rfl (tyN CF DF.out.1) B3.out (by rw [List.size_toArray, ncells_len _ HI6.out.dg.1, ncells_len _ DF.out.1]) ?_; intro w4 g4 h4; have G4 := hid g4; have H4 := hid h4; clear g4 h4)
            | fail)
          have RR := HI6.out.left HBB.out HBT.out hlt (by rw [← HLl2.out, ← HCT.out]; exact O3.out) (by rw [← HLl2.out]; exact S3.out) G4.out (by rw [← HCF.out]; exact H4.out)
          have c10 := (ncell0 H4.out).1
          go_frame
          go_roundw
          case rel =>
            have hl : (R ++ [child n' true]).length = l2 + 1 := by rw [List.length_append, ← HLl2.out]; rfl
            exact ⟨child n' false, L, R ++ [child n' true], sa, sc, ad3, cp3, by rw [← HLl1.out], by rw [hl], hid (by rw [hl]; exact RR)⟩
          case measure =>
            rw [MU.out, c10, HCF.out]
            show (34 - (n'.d + 1)).toNat < (34 - n'.d).toNat
            omega
    · have t1 : decide (n'.d < 34) = false := decide_eq_false hlt
      have HDN := hid (show L ++ R.reverse = oth a (34 - n.d).toNat n from by
        have h := HI.out.dn
        rw [show (34 - n'.d).toNat = 0 by omega] at h
        have h2 := HS.out
        rw [← h] at h2
        simpa [downP] using h2)
      have hlen := HI.out.len
      have BL := hid (show L.length ≤ 34 ∧ R.length ≤ 34 from ⟨by omega, by omega⟩)
      obtain ⟨l1, hl1⟩ : ∃ x, x = L.length := ⟨_, rfl⟩
      obtain ⟨l2, hl2⟩ : ∃ x, x = R.length := ⟨_, rfl⟩
      have HLl1 := hid hl1
      have HLl2 := hid hl2
      have OG := hid (show Own wr 91 34 (.slice ga l2 gc) R.length (tcells R) from by rw [hl2]; exact HI.out.og)
      rw [← hl1, ← hl2]
      clear hlen hl1 hl2 o1 o2 o3 o4 o5
      go_wp2_with fail
      refine (rev_walk R HI.out.dr _ _ (by have := BL.out; omega) OG.out).mono ?_
      rintro e W7 ⟨rfl, o7, g7⟩
      have O7 := hid o7
      have G7 := hid g7
      have OS := hid (show Own W7 91 34 (.slice sa l1 sc) l1 (tcells L) from by
        have h := HI.out.os.skip g7 (fun k hk e => HI.out.sg k hk (by rw [← HLl2.out]; exact e))
        rw [← HLl1.out] at h
        exact h)
      clear o7 g7 c0 c1 y0 t1
      go_wp2_with (first
        | (refine wpList_app nodesT rfl (.tmp 31) (.tmp 32) rfl (.slice sa l1 sc) l1 (tcells L) rfl OS.out (.slice ga l2 gc) R.length (tcells R.reverse) rfl (Sl.of_own O7.out) (by unfold tcells; rw [List.all_flatMap]; simp [ncells_one]) (by have := BL.out; have := HLl1.out; omega) ?_; intro v3 w3 o3 s3; have O3 := hid o3; have S3 := hid s3; clear o3 s3)
        | fail)
      have bS := fun r (e : (Value.slice sa l1 sc).ownBlock = some r) => (HI.out.bs r (by rw [← HLl1.out]; exact e)).1
      have bG := fun r (e : (Value.slice ga l2 gc).ownBlock = some r) => (HI.out.bg r (by rw [← HLl2.out]; exact e)).1
      have gW := grown_from HI.out.gr G7.out bG
      have FR := Step.fresh (grown_from gW S3.out.1 bS) (fun k hk => by rcases S3.out.2 k hk with h0 | h0; exact bS k h0; exact Nat.le_trans gW.size h0)
      have OW := O3.out
      rw [← tcells_append, HDN.out, show l1 + R.length = (oth a (34 - n.d).toNat n).length from by rw [← HDN.out, List.length_append, List.length_reverse, HLl1.out]] at OW
      go_ret
      exact ⟨_, rfl, OW, FR⟩
end Go.Proofs.Yteakoleceoclkaa
