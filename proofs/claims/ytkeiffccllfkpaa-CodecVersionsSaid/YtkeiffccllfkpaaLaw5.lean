/- The law CodecVersions: the walk. -/
import Derived.Test.YtkeiffccllfkpaaL5r
import Derived.Test.YtkeiffccllfkpaaN0
namespace Go.Proofs.Ytkeiffccllfkpaa
open Go.RowKit

theorem enterAVers : ∀ (av : Array Value) (w : World), ((Deferred.ofValue (.func (.func 29) #[] #[]) av).run Try.prog w).andThen (fun a w' => (invoke a.target a.args).run Try.prog w') = .ok (.enter 29 av) w := enter_of Try.func29 (by kernel_rfl) rfl
theorem enterADig : ∀ (av : Array Value) (w : World), ((Deferred.ofValue (.func (.func 28) #[] #[]) av).run Try.prog w).andThen (fun a w' => (invoke a.target a.args).run Try.prog w') = .ok (.enter 28 av) w := enter_of Try.func28 (by kernel_rfl) rfl
theorem enterASrcs : ∀ (av : Array Value) (w : World), ((Deferred.ofValue (.func (.func 27) #[] #[]) av).run Try.prog w).andThen (fun a w' => (invoke a.target a.args).run Try.prog w') = .ok (.enter 27 av) w := enter_of Try.func27 (by kernel_rfl) rfl
theorem versA {w W : World} {v : Value} {l : List Ver} (hv : Sl w 3 v l.length (l.flatMap vercells)) (hvl : Lo v w.heap.size) (hvw : ∀ x ∈ l, x.wf) (hl : l.length ≤ 40) (g : w.grownBy W none) :
    Calls Try.prog 29 #[nilS, v] W.drew fun e w' => ∃ v1, e = .returned v1 ∧ Hid (Own w' 5 1 v1 (encVers l).length (bv (encVers l)) ∧ W.grownBy w' none) := by
  have g2 := grown_trans g (grown_drew W)
  refine (appendVersions_walk nilS v l [] _ (Sl.nil _ _) (fun k hk => by simp [Value.ownBlock] at hk) ⟨hv.kept g2 (by cases v.ownBlock <;> simp), hvl.mono g2.size⟩ hvw (by simp; omega)).mono ?_
  rintro e w' ⟨v1, rfl, ho, hf⟩
  rw [List.nil_append] at ho
  exact ⟨v1, rfl, hid ⟨ho, grown_trans (grown_drew W) hf.1⟩⟩
theorem digA {W w1 : World} {v1 : Value} {xs d : List Nat} {C : List Value} (hC : bv d = C) (hd : d.length = 32) (ho : Own w1 5 1 v1 xs.length (bv xs)) (g : W.grownBy w1 none) (hl : xs.length ≤ 10000) :
    Calls Try.prog 28 #[v1, .agg C.toArray] w1 fun e w' => ∃ v2, e = .returned v2 ∧ Hid (Own w' 5 1 v2 (xs ++ d).length (bv (xs ++ d)) ∧ W.grownBy w' none) := by
  subst hC
  refine (appendDigest_walk v1 d xs w1 (Sl.of_own ho) (fun k hk => Own.lt ho k hk) hd (by omega)).mono ?_
  rintro e w' ⟨v2, rfl, ho2, hf⟩
  exact ⟨v2, rfl, hid ⟨ho2, grown_trans g hf.1⟩⟩
theorem srcA {w W w1 : World} {v1 s : Value} {xs : List Nat} {q : List Src} (hs : Sl w 2 s q.length (q.flatMap srccells)) (hsl : Lo s w.heap.size) (hsw : ∀ x ∈ q, x.wf) (hq : q.length ≤ 40) (g0 : w.grownBy W none)
    (ho : Own w1 5 1 v1 xs.length (bv xs)) (g : W.grownBy w1 none) (hl : xs.length ≤ 20000) :
    Calls Try.prog 27 #[v1, s] w1 fun e w' => ∃ v2, e = .returned v2 ∧ Hid (Own w' 5 1 v2 (xs ++ encSrcs q).length (bv (xs ++ encSrcs q)) ∧ W.grownBy w' none) := by
  have g2 := grown_trans g0 g
  refine (appendSources_walk v1 s q xs w1 (Sl.of_own ho) (fun k hk => Own.lt ho k hk) ⟨hs.kept g2 (by cases s.ownBlock <;> simp), hsl.mono g2.size⟩ hsw (by omega)).mono ?_
  rintro e w' ⟨v2, rfl, ho2, hf⟩
  exact ⟨v2, rfl, hid ⟨ho2, grown_trans g hf.1⟩⟩
set_option maxRecDepth 100000 in
set_option maxHeartbeats 1000000 in
theorem codecVersions_walk (v s : Value) (l : List Ver) (q : List Src) (d : List Nat) (w : World) (hv : Sl w 3 v l.length (l.flatMap vercells)) (hvl : Lo v w.heap.size) (hvw : ∀ x ∈ l, x.wf)
    (hs : Sl w 2 s q.length (q.flatMap srccells)) (hsl : Lo s w.heap.size) (hsw : ∀ x ∈ q, x.wf) (hd : d.length = 32) (hdb : ∀ b ∈ d, b < 256) :
    Calls Try.prog 7 #[v, s, .agg (bv d).toArray] w fun e w' => e = .returned (.bool true) ∧ w.grownBy w' none := by
  obtain ⟨ao, cap, rfl, hnc, hcm⟩ := hv.shape
  obtain ⟨ao2, cap2, rfl, hnc2, hcm2⟩ := hs.shape
  have HV := hid (And.intro hv (And.intro hvl hvw))
  have HS := hid (And.intro hs (And.intro hsl hsw))
  have HD := hid (And.intro hd hdb)
  clear hv hvl hvw hs hsl hsw hd hdb
  generalize hC : bv d = C
  have HC := hid hC
  clear hC
  by_cases h1 : 40 < l.length
  · have d1 : decide (40 < l.length) = true := decide_eq_true h1
    go_enter Try.func7, Try.ntmps7
    go_wp2_with (go_at_call 18; refine (awake_walk _).mono ?_; rintro e w' ⟨rfl, hg⟩)
    go_ret
    exact ⟨rfl, grown_trans (World.grownBy_alloc _ _ _) hg⟩
  have d1 : decide (40 < l.length) = false := decide_eq_false h1
  by_cases h2 : 40 < q.length
  · have d2 : decide (40 < q.length) = true := decide_eq_true h2
    go_enter Try.func7, Try.ntmps7
    go_wp2_with (go_at_call 18; refine (awake_walk _).mono ?_; rintro e w' ⟨rfl, hg⟩)
    go_ret
    exact ⟨rfl, grown_trans (World.grownBy_alloc _ _ _) hg⟩
  have d2 : decide (40 < q.length) = false := decide_eq_false h2
  go_enter Try.func7, Try.ntmps7
  go_wp2
  have hg0 := World.grownBy_alloc w (.cells C.toArray 45) none
  have hrow : (w.alloc (.cells C.toArray 45)).heap[w.heap.size]? = some (.cells C.toArray 45 (0, 0)) := heap_at rfl
  generalize w.alloc (.cells C.toArray 45) = W at *
  have HG0 := hid hg0
  have HROW := hid hrow
  have r0 : W.rangeAt w.heap.size 0 C := rangeAt_row hrow
  have hC32 : C.length = 32 := by rw [← HC.out, bv_length]; exact HD.out.1
  have hu := Try.underlying45
  have hi : (Try.prog.info? 45).map (·.size) = some C.length := by rw [hC32]; kernel_rfl
  have h1c : ∀ v ∈ C, v.oneCell' = true := by rw [← HC.out]; exact fun v hv => bv_one hv
  have e1 := encVers_len (HV.out.2.2) (by omega)
  have hl1 : (encVers l).length ≤ 10000 := by omega
  have hl2 : (encVers l ++ d).length ≤ 20000 := by have := HD.out.1; rw [List.length_append]; omega
  have HL := hid (And.intro hl1 hl2)
  clear hg0 hrow e1 hl1 hl2
  go_region_held3 (fun w' => w'.rangeAt w.heap.size 0 C) (first | go_keep_ranges | exact r1 | exact r2 | exact r3 | fail)
    (first
      | (refine step_callS rfl 29 #[.const (.slice none 0 0), .tmp 26] #[22, 42] rfl enterAVers #[nilS, .slice ao l.length cap] (by simp [Act.eval]) (versA HV.out.1 HV.out.2.1 HV.out.2.2 (by omega) HG0.out) ?_
         rintro e w1 ⟨v1, rfl, M1⟩
         refine ⟨_, rfl, ?_⟩
         have r1 := range_grown HROW.out M1.out.2)
      | (refine step_callS rfl 28 #[.tmp 27, .tmp 28] #[22, 45] rfl enterADig #[v1, .agg C.toArray] (by simp [Act.eval]) (digA HC.out HD.out.1 M1.out.1 M1.out.2 HL.out.1) ?_
         rintro e w2 ⟨v2, rfl, M2⟩
         refine ⟨_, rfl, ?_⟩
         have r2 := range_grown HROW.out M2.out.2)
      | (refine step_callS rfl 27 #[.tmp 29, .tmp 30] #[22, 43] rfl enterASrcs #[v2, .slice ao2 q.length cap2] (by simp [Act.eval]) (srcA HS.out.1 HS.out.2.1 HS.out.2.2 (by omega) HG0.out M2.out.1 M2.out.2 HL.out.2) ?_
         rintro e w3 ⟨v3, rfl, M3⟩
         refine ⟨_, rfl, ?_⟩
         have r3 := range_grown HROW.out M3.out.2)
      | fail)
  have HSQ := hid (encSrcs_len HS.out.2.2 (by omega))
  have hlo3 : Lo v3 w3.heap.size := fun k hk => Own.lt M3.out.1 k hk
  clear r0 r1 r2 r3 hu hi h1c
  go_wp2_with fail
  refine (rdxVersions_walk v3 _ w3 (Sl.of_own M3.out.1) (by have := HL.out.2; have := HSQ.out; rw [List.length_append]; omega) (app_byte (app_byte (encVers_byte l) HD.out.2) (encSrcs_byte q)) hlo3).mono ?_
  intro e w4 h4
  obtain ⟨X4, hX4⟩ : ∃ X, X = d ++ encSrcs q := ⟨_, rfl⟩
  obtain ⟨g4, m4, rv4, rfl, hrep4, hs4, hlo4⟩ := h4.ok (show pVers (encVers l ++ d ++ encSrcs q) = .ok (l, X4) by rw [hX4, List.append_assoc]; exact (cd_vers l (by omega) HV.out.2.2).rt (d ++ encSrcs q))
  have hx4 : X4.length = 32 + (encSrcs q).length := by rw [hX4, List.length_append, HD.out.1]
  have hs4l : Lo rv4 w4.heap.size := Sl.lo_pos hs4 (by omega)
  have hb4 : ∀ b ∈ X4, b < 256 := by rw [hX4]; exact app_byte HD.out.2 (encSrcs_byte q)
  obtain ⟨ao4, cap4, rfl, _, _⟩ := hs4.shape
  obtain ⟨ao5, cap5, rfl, _, _⟩ := hrep4.sl.shape
  have R4 := hid hrep4
  have S4 := hid (And.intro hs4 (And.intro hs4l hb4))
  have HX4 := hid (And.intro hX4 hx4)
  clear h4 hs4 hrep4 hlo4 hs4l hb4 hX4 hx4
  go_wp2_with fail
  refine (rdxDigest_walk _ X4 w4 S4.out.1 (by have := HX4.out.2; have := HSQ.out; omega) S4.out.2.2 S4.out.2.1).mono ?_
  intro e w5 h5
  obtain ⟨X5, hX5⟩ : ∃ X, X = encSrcs q := ⟨_, rfl⟩
  obtain ⟨g5, m5, rv5, rfl, hrep5, hs5, hlo5⟩ := h5.ok (show pBytes 32 X4 = .ok (d, X5) by rw [HX4.out.1, hX5]; exact (cd_bytes d 32 HD.out.1.symm).rt (encSrcs q))
  obtain ⟨hm5, _, _⟩ := hrep5
  have ht5 : TY Try.prog 45 (bv d) m5 := by rw [hm5]; exact tyDig d HD.out.1
  have T5 := hid ht5
  have HM5 := hid hm5
  obtain ⟨ao6, cap6, rfl, _, _⟩ := hs5.shape
  have S5 := hid hs5
  have HX5 := hid hX5
  clear h5 hs5 hlo5 hX5 ht5 hm5
  go_wp2_with (first | (refine wpList_storeTYg rfl 45 (.tmp 11) (.tmp 41) rfl rfl rfl T5.out (heap_at rfl) (by rw [bv_length, HD.out.1]; rfl) ?_; intro w6 hg6 hb6; have g6 := grown_newR (World.grownBy_alloc w5 _ none) hg6 (Nat.le_refl _); have G6 := hid g6; have B6 := hid hb6; clear hg6 hb6 g6) | fail)
  have ga := World.grownBy_alloc w6 (.cells #[.int .u8 7] 5) none
  refine (join_walk _ _ X5 [7] _ ((S5.out.kept G6.out (by cases (Value.slice ao6 X5.length cap6).ownBlock <;> simp)).kept ga (by cases (Value.slice ao6 X5.length cap6).ownBlock <;> simp)) (sl_blk (xs := bv [7]) (heap_at rfl) ⟨rfl, by simp⟩) (by have h8 := HX5.out; have h9 := HSQ.out; subst h8; simp; omega)).mono ?_
  rintro e w7 ⟨v7, rfl, hown7, hg7⟩
  have g7 := grown_trans G6.out (grown_trans ga hg7.1)
  have G67 := hid (grown_trans ga hg7.1)
  have G7 := hid g7
  have O7 := hid hown7
  have hlo7 : Lo v7 w7.heap.size := fun k hk => Own.lt hown7 k hk
  have L7 := hid hlo7
  clear ga hg7 g7 hown7 hlo7
  go_wp2_with fail
  refine (rdxSources_walk v7 (X5 ++ [7]) w7 (Sl.of_own O7.out) (by have h8 := HX5.out; have := HSQ.out; subst h8; simp; omega) (app_byte (by have h8 := HX5.out; subst h8; exact encSrcs_byte q) (by simp)) L7.out).mono ?_
  intro e w8 h8
  obtain ⟨g8, m8, rv8, rfl, hrep8, hs8, _⟩ := h8.ok (show pSrcs (X5 ++ [7]) = .ok (q, [7]) by rw [HX5.out]; exact (cd_srcs q (by omega) HS.out.2.2).rt [7])
  obtain ⟨ao8, cap8, rfl, _, _⟩ := hs8.shape
  obtain ⟨ao9, cap9, rfl, _, _⟩ := hrep8.sl.shape
  have R8 := hid hrep8
  have S8 := hid hs8
  have G8 := hid g8
  clear h8 hrep8 hs8 g8
  go_wp2_with fail
  have g48 := grown_trans g5 (grown_trans G7.out G8.out)
  have gW8 := grown_trans M3.out.2 (grown_trans g4 g48)
  have gt := grown_trans HG0.out gW8
  have GT := hid gt
  have hv : Sl w8 3 (.slice ao l.length cap) l.length (l.flatMap vercells) ∧ Lo (.slice ao l.length cap) w8.heap.size ∧ ∀ x ∈ l, x.wf := ⟨HV.out.1.kept gt (by cases (Value.slice ao l.length cap).ownBlock <;> simp), HV.out.2.1.mono gt.size, HV.out.2.2⟩
  have hs : Sl w8 2 (.slice ao2 q.length cap2) q.length (q.flatMap srccells) ∧ Lo (.slice ao2 q.length cap2) w8.heap.size ∧ ∀ x ∈ q, x.wf := ⟨HS.out.1.kept gt (by cases (Value.slice ao2 q.length cap2).ownBlock <;> simp), HS.out.2.1.mono gt.size, HS.out.2.2⟩
  have hl : l.length ≤ 40 := by omega
  have hq : q.length ≤ 40 := by omega
  have h8 := R4.out.sl.kept g48 (by cases (Value.slice ao5 l.length cap5).ownBlock <;> simp)
  have h14 := R8.out.sl
  have h15 := S8.out
  have hd := HD.out.1
  have hD : w8.heap[w.heap.size]? = some (.cells (bv d).toArray 45 (0, 0)) := by rw [HC.out]; exact row_of gW8 HROW.out (by simp)
  have hE : w8.heap[w5.heap.size]? = some (.cells (bv d).toArray 45 (0, 0)) := row_of (grown_trans G67.out G8.out) B6.out (by simp)
  rw [← HC.out]
  refine region_list mixed (c7vL l q d ao ao2 ao5 ao9 cap cap2 cap5 cap9 w.heap.size w5.heap.size) _ (c7v_reg _) (c7v_m _) rfl ⟨.inr rfl, .inr rfl, .inr trivial, .inr trivial, .inr trivial, .inr rfl, .inl rfl, .inr trivial, .inr rfl, .inr trivial, .inr rfl, .inr rfl, .inr trivial, .inr rfl, .inr rfl, .inr h15, .inr rfl, .inr trivial, .inr trivial, .inr trivial, .inr trivial, .inr trivial, .inr trivial, .inr trivial, .inr trivial, .inr trivial, .inr trivial, .inr trivial, .inr trivial, .inr trivial, .inr trivial, .inr trivial, .inr trivial, .inr trivial, .inr trivial, .inr trivial, .inr trivial, .inr trivial, .inr trivial, .inr trivial, .inr trivial, .inr trivial, .inr trivial, .inr trivial, .inr trivial, .inr trivial, .inr trivial, .inr trivial, .inr trivial, .inr trivial, .inr trivial, .inr trivial, .inl rfl, .inl rfl, .inl rfl, .inl rfl, .inl rfl, .inl rfl, .inl rfl, .inl rfl, .inl rfl, .inl rfl, .inl rfl, .inl rfl, .inl rfl, .inl rfl, .inl rfl, .inl rfl, .inl rfl, .inl rfl, .inl rfl, .inl rfl, .inl rfl, .inl rfl, .inl rfl, .inl rfl, .inl rfl, .inl rfl, .inl rfl, .inl rfl, .inl rfl, .inl rfl, .inl rfl, .inl rfl, .inl rfl, .inl rfl, .inl rfl, .inl rfl, .inl rfl, .inl rfl, .inl rfl, .inl rfl, .inl rfl, .inl rfl, .inl rfl, .inl rfl, .inl rfl, .inl rfl, .inl rfl, .inl rfl, .inl rfl, .inl rfl, .inl rfl, trivial⟩ (c7v_ob _ l q d ao ao2 ao5 ao9 cap cap2 cap5 cap9 w.heap.size w5.heap.size _ hv hl hs hq h8 h14 hd hD hE) ?_
  intro a w9 hg9 hd9 hsz hk
  have h6 := hk 6 (by show 6 < 103; decide)
  go_wp2
  refine bodyPost_ret (results_tmp rfl _ _ _) hd9 ?_
  exact ⟨congrArg _ h6, grown_trans GT.out hg9⟩
end Go.Proofs.Ytkeiffccllfkpaa
