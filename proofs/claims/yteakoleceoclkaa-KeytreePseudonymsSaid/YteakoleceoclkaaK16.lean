/- Key trees: Puncture of the reference. -/
import Derived.Test.YteakoleceoclkaaMK4
import Derived.Test.YteakoleceoclkaaMQ
import Derived.Test.YteakoleceoclkaaMK3
namespace Go.Proofs.Yteakoleceoclkaa
open Go.RowKit Go.Shelf
set_option linter.unusedSimpArgs false
set_option linter.unusedVariables false
attribute [local go_sem] Oper.semAt_some

/-- what is known between two rounds of the reference's Puncture -/
structure RI (w : World) (B : Nat) (a : Int) (n0 : Nd) (n : Nd) (L R : List Nd) (s g : Value) (wr : World) : Prop where
  ok : okN n = true
  dg : Dg n.k
  dn : downR a (34 - n.d).toNat n L R = downR a (34 - n0.d).toNat n0 [] []
  len : L.length + R.length + (34 - n.d).toNat ≤ 34
  gr : w.grownBy wr none
  hb : wr.heap[B]? = some (.cells (ncells n).toArray 91 (0, 0))
  os : Own wr 91 34 s L.length (tcells L)
  og : Own wr 91 34 g R.length (tcells R)
  bs : ∀ k, s.ownBlock = some k → w.heap.size ≤ k ∧ k ≠ B
  bg : ∀ k, g.ownBlock = some k → w.heap.size ≤ k ∧ k ≠ B
  sg : ∀ k, s.ownBlock = some k → g.ownBlock ≠ some k
theorem RI.kn {w wr W : World} {B : Nat} {a : Int} {n0 n : Nd} {L R : List Nd} {s g : Value} (h : RI w B a n0 n L R s g wr) (k : wr.grownBy W none) : RI w B a n0 n L R s g W :=
  ⟨h.ok, h.dg, h.dn, h.len, grown_trans h.gr k, row_of k h.hb (by simp), h.os.kn k, h.og.kn k, h.bs, h.bg, h.sg⟩
theorem RI.right {w wr W4 W5 : World} {B : Nat} {a : Int} {n0 n : Nd} {L R : List Nd} {s g s' : Value} (hB : w.heap.size ≤ B) (h : RI w B a n0 n L R s g wr) (hbit : cov (child n false) a = false) (hd : n.d < 34)
    (o4 : Own W4 91 34 s' (L.length + 1) (tcells L ++ ncells (child n false))) (s4 : Step wr s W4 s') (g5 : W4.grownBy W5 (some B)) (h5 : W5.heap[B]? = some (.cells (ncells (child n true)).toArray 91 (0, 0))) :
    RI w B a n0 (child n true) (L ++ [child n false]) R s' g W5 := by
  have hB2 : B < wr.heap.size := (ncell0 h.hb).2.2
  have hs' : ∀ k, s'.ownBlock = some k → s.ownBlock = some k ∨ wr.heap.size ≤ k := s4.2
  obtain ⟨o1, o2, o3, o4'⟩ := okN_iff.1 h.ok
  have hk : (34 - n.d).toNat = (34 - (child n true).d).toNat + 1 := by simp [child]; omega
  have hk2 : (34 - n.d).toNat = (34 - (child n false).d).toNat + 1 := by simp [child]; omega
  refine ⟨okN_child _ h.ok (by omega), child_dg _ _, ?_, ?_, ?_, h5, ?_, ?_, ?_, h.bg, ?_⟩
  · rw [← h.dn, hk, downR, if_neg (by rw [hbit]; decide)]
  · have := h.len; rw [hk] at this; rw [List.length_append, List.length_singleton]; omega
  · refine grown_from (grown_from h.gr s4.1 fun r e => (h.bs r e).1) g5 fun r e => by cases e; exact hB
  · rw [List.length_append, List.length_singleton, tcells_append, tcells_one]
    refine o4.skip g5 fun k hk e => ?_
    cases e
    rcases hs' _ hk with h0 | h0
    · exact (h.bs _ h0).2 rfl
    · omega
  · refine (h.og.skip s4.1 fun k hk e => h.sg k e hk).skip g5 fun k hk e => ?_
    cases e
    exact (h.bg _ hk).2 rfl
  · intro k hk
    rcases hs' k hk with h0 | h0
    · exact h.bs k h0
    · have := h.gr.size; omega
  · intro k hk e
    rcases hs' k hk with h0 | h0
    · exact h.sg k h0 e
    · have := Own.lt h.og k e; omega
theorem RI.left {w wr W4 W5 : World} {B : Nat} {a : Int} {n0 n : Nd} {L R : List Nd} {s g g' : Value} (hB : w.heap.size ≤ B) (h : RI w B a n0 n L R s g wr) (hbit : cov (child n false) a = true) (hd : n.d < 34)
    (o4 : Own W4 91 34 g' (1 + R.length) (ncells (child n true) ++ tcells R)) (g4 : wr.grownBy W4 none) (s4 : ∀ k, g'.ownBlock = some k → wr.heap.size ≤ k) (g5 : W4.grownBy W5 (some B)) (h5 : W5.heap[B]? = some (.cells (ncells (child n false)).toArray 91 (0, 0))) :
    RI w B a n0 (child n false) L (child n true :: R) s g' W5 := by
  have hB2 : B < wr.heap.size := (ncell0 h.hb).2.2
  obtain ⟨o1, o2, o3, o4'⟩ := okN_iff.1 h.ok
  have hk : (34 - n.d).toNat = (34 - (child n false).d).toNat + 1 := by simp [child]; omega
  refine ⟨okN_child _ h.ok (by omega), child_dg _ _, ?_, ?_, ?_, h5, ?_, ?_, h.bs, ?_, ?_⟩
  · rw [← h.dn, hk, downR, if_pos hbit]
  · have := h.len; rw [hk] at this; rw [List.length_cons]; omega
  · refine grown_from (grown_trans h.gr g4) g5 fun r e => by cases e; exact hB
  · refine (h.os.kn g4).skip g5 fun k hk e => ?_
    cases e
    exact (h.bs _ hk).2 rfl
  · have e1 : tcells (child n true :: R) = ncells (child n true) ++ tcells R := by unfold tcells; rw [List.flatMap_cons]
    rw [e1, List.length_cons, Nat.add_comm]
    refine o4.skip g5 fun k hk e => ?_
    cases e
    have := s4 _ hk; omega
  · intro k hk
    have := s4 k hk; have := h.gr.size; omega
  · intro k hk e
    have := s4 k e; have := Own.lt h.os k hk; omega
theorem own_lit (w : World) (n : Nd) (hn : n.k.length = 32) : Own (w.alloc (.cells (ncells n).toArray 91)) 91 34 (.slice (some ⟨w.heap.size, 0, none⟩) 1 1) 1 (ncells n) := by
  refine ⟨by rw [ncells_len _ hn], .inr ⟨w.heap.size, 1, (ncells n).toArray, rfl, Nat.zero_le _, World.alloc_heap_new _ _, by omega, by decide, ?_, ?_⟩⟩
  · rw [List.size_toArray, ncells_len _ hn]
  · exact List.take_of_length_le (by rw [List.toList_toArray, ncells_len _ hn]; exact Nat.le_refl _)
theorem wrap_succ {i : Nat} (h : i < 1099511627776) : IntKind.i64.wrap ((i : Int) + 1) = (i : Int) + 1 := by rw [IntKind.wrap_i64]; omega
theorem tcells_take {l : List Nd} (h : ∀ n ∈ l, Dg n.k) (i : Nat) : (tcells l).take (i * 34) = tcells (l.take i) := by
  induction l generalizing i with
  | nil => simp [tcells]
  | cons x l ih =>
    have hx := ncells_len _ (h x (List.mem_cons_self ..)).1
    have e1 : ∀ (y : Nd) (l : List Nd), tcells (y :: l) = ncells y ++ tcells l := fun y l => by unfold tcells; rw [List.flatMap_cons]
    cases i with
    | zero => simp [tcells]
    | succ i => rw [List.take_succ_cons, e1, e1, show (i + 1) * 34 = (ncells x).length + i * 34 by omega, List.take_length_add_append, ih (fun n hn => h n (List.mem_cons_of_mem _ hn))]
theorem tcells_drop {l : List Nd} (h : ∀ n ∈ l, Dg n.k) (i : Nat) : (tcells l).drop (i * 34) = tcells (l.drop i) := by
  induction l generalizing i with
  | nil => simp [tcells]
  | cons x l ih =>
    have hx := ncells_len _ (h x (List.mem_cons_self ..)).1
    have e1 : ∀ (y : Nd) (l : List Nd), tcells (y :: l) = ncells y ++ tcells l := fun y l => by unfold tcells; rw [List.flatMap_cons]
    cases i with
    | zero => simp
    | succ i => rw [List.drop_succ_cons, e1, show (i + 1) * 34 = (ncells x).length + i * 34 by omega, List.drop_length_add_append, ih (fun n hn => h n (List.mem_cons_of_mem _ hn))]
/-- the first i nodes of a slice -/
theorem Sl.headN {w : World} {b off n cap i : Nat} {l : List Nd} (hl : ∀ n ∈ l, Dg n.k) (h : Sl w 34 (.slice (some ⟨b, off, none⟩) n cap) n (tcells l)) (hi : i ≤ n) : Sl w 34 (.slice (some ⟨b, off, none⟩) i cap) i (tcells (l.take i)) := by
  obtain ⟨hlx, ao0, cap0, hv, h3, h4, h5, h6⟩ := h
  simp only [Value.slice.injEq] at hv
  obtain ⟨rfl, _, rfl⟩ := hv
  rw [← tcells_take hl]
  refine ⟨by rw [List.length_take, hlx]; omega, _, _, rfl, by omega, h4, h5, fun a ha => ⟨fun h0 => (h6 a ha).1 (by omega), fun j u hu => (h6 a ha).2 j u ?_⟩⟩
  rw [List.getElem?_take] at hu
  split at hu
  · exact hu
  · cases hu
/-- the nodes of a slice from the j-th on -/
theorem Sl.tailN {w : World} {b off n cap j : Nat} {l : List Nd} (hl : ∀ n ∈ l, Dg n.k) (h : Sl w 34 (.slice (some ⟨b, off, none⟩) n cap) n (tcells l)) (hj : j ≤ n) : Sl w 34 (.slice (some ⟨b, off + j * 34, none⟩) (n - j) (cap - j)) (n - j) (tcells (l.drop j)) := by
  obtain ⟨hlx, ao0, cap0, hv, h3, h4, h5, h6⟩ := h
  simp only [Value.slice.injEq] at hv
  obtain ⟨rfl, _, rfl⟩ := hv
  rw [← tcells_drop hl]
  refine ⟨by rw [List.length_drop, hlx, ← Nat.sub_mul], _, _, rfl, by omega, by omega, fun h => (by cases h), fun a ha => ?_⟩
  obtain rfl := Option.some.inj ha
  refine ⟨fun _ => rfl, fun k u hu => ?_⟩
  rw [List.getElem?_drop] at hu
  have := (h6 ⟨b, off, none⟩ rfl).2 (j * 34 + k) u hu
  simp only at this ⊢
  rw [Nat.add_assoc]
  exact this
/-- what a puncture of the reference hands out: a slice that reads as the tree -/
def TagK (w : World) (v : Value) : Prop := ∀ k, v.ownBlock = some k → ∃ c fr, w.heap[k]? = some (.cells c 91 fr)
def PunS (w : World) (s : Value) (r : List Nd × Int) (e : Ending) (w' : World) : Prop := ∃ v, e = .returned (.tuple #[.agg #[v], .int .i64 r.2]) ∧ Sl w' 34 v r.1.length (tcells r.1) ∧ (∀ k, fpT v k → k < w'.heap.size) ∧ w.grownBy w' none ∧ (v = s ∨ TagK w' v)
theorem PunR.s {w w' : World} {s : Value} {r : List Nd × Int} {e : Ending} (h : PunR w r e w') : PunS w s r e w' := by
  obtain ⟨v, h1, h2, h3⟩ := h
  exact ⟨v, h1, Sl.of_own h2, fun k hk => Own.lt h2 k hk.1, h3.none, .inr fun k hk => Own.block h2 hk⟩


set_option maxRecDepth 100000 in
set_option maxHeartbeats 4000000 in
theorem rpunct_walk (l : List NdK) (s : Value) (a : Int) (w : World) (hR : RdL w s l) :
    Calls Try.prog 25 #[.agg #[s], .int .i64 a] w (PunS w s (punOf (l.map (·.1)) a)) := by
  obtain ⟨ao, cap, rfl, p1, p2⟩ := hR.shape
  have HR := hid hR
  obtain ⟨gl, hgl⟩ : ∃ v, v = punOf (l.map (·.1)) a := ⟨_, rfl⟩
  rw [← hgl]
  have HV := hid hgl
  obtain ⟨m, hm⟩ : ∃ m, m = l.length := ⟨_, rfl⟩
  have hm0 : m ≤ 1099511627776 := by rw [hm]; exact hR.2.2
  rw [← hm] at HR p1 ⊢
  have HM := hid hm
  obtain ⟨w0, hw0⟩ : ∃ x, x = (w.alloc (.cells #[.slice ao m cap] 34)).alloc (.cells #[.slice none 0 0] 34) := ⟨_, rfl⟩
  have HG0 := hid (show w.grownBy w0 none by rw [hw0]; exact grown_trans (World.grownBy_alloc _ _ _) (World.grownBy_alloc _ _ _))
  have Z0 := hid (show w0.heap[w.heap.size]? = some (.cells #[.slice ao m cap] 34 (0, 0)) by rw [hw0, heap_past (by simp <;> omega), heap_at (by simp <;> omega)])
  have Z1 := hid (show w0.heap[w.heap.size + 1]? = some (.cells #[.slice none 0 0] 34 (0, 0)) by rw [hw0, heap_at (by simp)])
  have HS0 := hid (show w0.heap.size = w.heap.size + 2 by rw [hw0]; simp)
  have HW0 := hid hw0
  clear hR hgl hm hw0
  go_enter Try.func25, Try.ntmps25
  refine wp_seq_k fun K0 k0 => ?_
  have HK0 := hid k0
  clear k0
  go_wp2
  refine HK0.out _ _ ?_
  clear HK0
  rw [← HW0.out]
  clear HW0
  have c0 : w0.cell? ⟨w.heap.size, 0, none⟩ = some (.slice ao m cap) := by rw [cell_of_row _ _ _ _ _ _ Z0.out]; rfl
  have y0 := block_lt_of_cell c0
  go_wp2_with fail
  refine (rvalid_walk l (.slice ao m cap) _ (HR.out.kn HG0.out)).mono ?_
  rintro e w2 ⟨rfl, g2⟩
  have G2 := hid (grown_trans HG0.out g2)
  have c0 := g2.cell c0 (by simp)
  have y0 := block_lt_of_cell c0
  have Z1 := hid (row_of g2 Z1.out (by simp))
  have Z0 := hid (row_of g2 Z0.out (by simp))
  have H2S := hid g2.size
  clear g2
  by_cases hv : vld (l.map (·.1)) = true
  · have HVL := hid hv
    simp only [hv]
    clear hv
    by_cases h1 : a < 0
    · have t1 : decide (a < 0) = true := by simp; omega
      have HZ := hid (show gl = ([], 1) by rw [HV.out]; unfold punOf; rw [if_neg (by rw [Bool.and_eq_true, isAddr_iff]; omega)])
      clear h1
      go_wp2_with (first
        | (refine wpList_buildR rfl 34 _ rfl #[] (by simp) (bT0 _) ?_)
        | (refine wpList_storeTYg rfl 34 (.tmp 4) (.tmp 24) rfl rfl rfl (tyT (.slice none 0 0) rfl) Z1.out rfl ?_; intro w5 g5 h5; have G5 := hid g5; have H5 := hid h5; clear g5 h5)
        | fail)
      exact bodyPost_ret (results_ct (p := 4) (q := 5) (b0 := w.heap.size + 1) rfl rfl rfl (tyT (.slice none 0 0) rfl) H5.out) rfl ⟨.slice none 0 0, by rw [HZ.out]; rfl, by rw [HZ.out]; exact Sl.nil _ _, fun k hk => (fpT_nil k hk).elim, grown_newR G2.out G5.out (by omega), .inr fun k hk => (by simp [Value.ownBlock] at hk)⟩
    have t1 : decide (a < 0) = false := by simp; omega
    by_cases h2 : 17179869184 ≤ a
    · have t2 : decide ((17179869184 : Int) ≤ a) = true := by simp; omega
      have HZ := hid (show gl = ([], 1) by rw [HV.out]; unfold punOf; rw [if_neg (by rw [Bool.and_eq_true, isAddr_iff]; omega)])
      clear h1 h2
      go_wp2_with (first
        | (refine wpList_buildR rfl 34 _ rfl #[] (by simp) (bT0 _) ?_)
        | (refine wpList_storeTYg rfl 34 (.tmp 4) (.tmp 24) rfl rfl rfl (tyT (.slice none 0 0) rfl) Z1.out rfl ?_; intro w5 g5 h5; have G5 := hid g5; have H5 := hid h5; clear g5 h5)
        | fail)
      exact bodyPost_ret (results_ct (p := 4) (q := 5) (b0 := w.heap.size + 1) rfl rfl rfl (tyT (.slice none 0 0) rfl) H5.out) rfl ⟨.slice none 0 0, by rw [HZ.out]; rfl, by rw [HZ.out]; exact Sl.nil _ _, fun k hk => (fpT_nil k hk).elim, grown_newR G2.out G5.out (by omega), .inr fun k hk => (by simp [Value.ownBlock] at hk)⟩
    have t2 : decide ((17179869184 : Int) ≤ a) = false := by simp; omega
    have AB := hid (show 0 ≤ a ∧ a < 17179869184 by omega)
    have HLO := hid (show gl = if 32768 < (pun a (l.map (·.1))).length then ([], 8) else (pun a (l.map (·.1)), 0) by
      rw [HV.out]; unfold punOf; rw [if_pos (by rw [Bool.and_eq_true, isAddr_iff]; exact ⟨AB.out, HVL.out⟩), punP_pun HVL.out])
    have HND := hid (show ∀ n ∈ l, 0 ≤ n.1.d ∧ n.1.d ≤ 34 from fun n hn => by
      have h := okN_iff.1 (vld_ok HVL.out n.1 (List.mem_map.2 ⟨n, hn, rfl⟩))
      exact ⟨h.1, h.2.1⟩)
    go_wp2_with fail
    refine (rfind_walk l (.slice ao m cap) a _ (HR.out.kn G2.out) HND.out AB.out).mono ?_
    rintro e w3 ⟨rfl, g3⟩
    have G3 := hid (grown_trans G2.out g3)
    have c0 := g3.cell c0 (by simp)
    have y0 := block_lt_of_cell c0
    have Z1 := hid (row_of g3 Z1.out (by simp))
    have H3S := hid g3.size
    clear g3 h1 h2 t1 t2
    rcases hfi : (l.map (·.1)).find? (fun n => cov n a) with _ | n0
    · have hf := fnd_none hfi
      have HZ := hid (show gl = (l.map (·.1), 0) by
        have h1 : pun a (l.map (·.1)) = l.map (·.1) := pun_free fun n hn => by
          have := List.find?_eq_none.1 hfi n hn
          simpa using this
        have h2 : (l.map (·.1)).length ≤ 32768 := by have h := HVL.out; unfold vld at h; simp at h; simpa using h.1
        rw [HLO.out, h1, if_neg (by omega)])
      rw [hf]
      clear hf hfi
      have RS := hid (HR.out.kn G3.out)
      have RB := hid HR.out.2.1
      go_wp2_with (first
        | (refine wpList_storeTYg rfl 34 (.tmp 4) (.tmp 30) rfl rfl rfl (tyT (.slice ao m cap) rfl) Z1.out rfl ?_; intro w5 g5 h5; have G5 := hid g5; have H5 := hid h5; clear g5 h5)
        | fail)
      have hGW := grown_newR G3.out G5.out (by omega)
      exact bodyPost_ret (results_ct (p := 4) (q := 5) (b0 := w.heap.size + 1) rfl rfl rfl (tyT (.slice ao m cap) rfl) H5.out) rfl ⟨.slice ao m cap, by rw [HZ.out]; rfl, by rw [HZ.out]; exact (HR.out.kn hGW).1.1, (HR.out.kn hGW).2.1, hGW, .inl rfl⟩
    · obtain ⟨i, hi, hf, hn0⟩ := fnd_some hfi
      have hcv : cov n0 a = true := by have := List.find?_some hfi; exact this
      have HCV := hid hcv
      have HZ := hid (show gl = if 32768 < ((l.map (·.1)).take i ++ (oth a (34 - n0.d).toNat n0 ++ (l.map (·.1)).drop (i + 1))).length then ([], 8) else ((l.map (·.1)).take i ++ (oth a (34 - n0.d).toNat n0 ++ (l.map (·.1)).drop (i + 1)), 0) by
        have h := pun_at HVL.out hi (a := a) (by rw [hn0]; exact hcv)
        rw [hn0] at h
        rw [HLO.out, h])
      clear hcv
      have hsr := HR.out.kn G3.out
      have hil : i < m := by rw [HM.out]; rw [List.length_map] at hi; exact hi
      obtain ⟨b, off, rfl, hrg⟩ := hsr.1.range hi
      have HNK := hid (hsr.1.2 _ (List.getElem_mem hi))
      have HNO := hid (vld_ok HVL.out _ (List.getElem_mem hi))
      rw [hn0] at hrg HNK HNO
      have HRG := hid hrg
      have TN := hid (tyN n0 HNK.out.1.1)
      have NL := hid (ncells_len n0 HNK.out.1.1)
      have i0 : (0 : Int) ≤ (i : Int) := by omega
      have i1 : (i : Int) < (m : Int) := by omega
      rw [hf]
      clear hf hfi hsr hrg hn0
      obtain ⟨B, hB⟩ : ∃ B, B = w3.heap.size := ⟨_, rfl⟩
      have HB := hid hB
      clear hB
      go_wp2_with (first
        | (refine wpList_loadAt rfl 91 (.tmp 34) rfl rfl TN.out HRG.out ?_)
        | (refine wpList_storeTYg rfl 91 (.tmp 9) (.tmp 35) rfl rfl rfl TN.out (heap_at rfl) (by rw [NL.out]; rfl) ?_; intro W4 g4 h4; rw [← HB.out] at h4; have G4 := hid (grown_newR (World.grownBy_alloc w3 _ none) g4 (Nat.le_refl _)); have H4 := hid h4; clear g4 h4)
        | fail)
      try go_frame
      rw [← HB.out]
      have HI0 := hid (show RI w3 B a n0 n0 [] [] (.slice none 0 0) (.slice none 0 0) W4 from
        ⟨HNO.out, HNK.out.1, rfl, by simp only [List.length_nil]; have := (okN_iff.1 HNO.out).1; omega, G4.out, H4.out, World.ownsRow_nil _ _ _ _, World.ownsRow_nil _ _ _ _, fun k h => (by simp [Value.ownBlock] at h), fun k h => (by simp [Value.ownBlock] at h), fun k h => (by simp [Value.ownBlock] at h)⟩)
      go_loopw [7, 8, 10, 11] (fun s g p q wr => ∃ (n' : Nd) (L R : List Nd) (sa : Option Addr) (sc : Nat) (ga : Option Addr) (gc : Nat), s = .slice sa L.length sc ∧ g = .slice ga R.length gc ∧ Hid (RI w3 B a n0 n' L R (.slice sa L.length sc) (.slice ga R.length gc) wr)) (fun s g p q wr => (34 - intOf ((wr.cell? ⟨B, 0, none⟩).getD undef)).toNat)
      case atStart => exact ⟨n0, [], [], none, 0, none, 0, rfl, rfl, HI0⟩
      case round =>
        obtain ⟨n', L, R, sa, sc, ga, gc, rfl, rfl, HI⟩ := hrel
        obtain ⟨c8, c9, y8⟩ := ncell0 HI.out.hb
        have HO := hid HI.out.ok
        obtain ⟨o1, o2, o3, o4⟩ := okN_iff.1 HO.out
        have o5 := okN_p HO.out
        have MU := hid (show intOf ((wr.cell? ⟨B, 0, none⟩).getD undef) = n'.d by rw [c8]; rfl)
        clear HI0
        by_cases hlt : n'.d < 34
        · have t1 : decide (n'.d < 34) = true := decide_eq_true hlt
          clear o4
          obtain ⟨CF, hCF⟩ : ∃ x, x = child n' false := ⟨_, rfl⟩
          obtain ⟨CT, hCT⟩ : ∃ x, x = child n' true := ⟨_, rfl⟩
          have HCF := hid hCF
          have HCT := hid hCT
          have TN' := hid (tyN n' HI.out.dg.1)
          have DF := hid (show Dg CF.k by rw [hCF]; exact child_dg _ _)
          have DT := hid (show Dg CT.k by rw [hCT]; exact child_dg _ _)
          have WF := hid (fun W => rchild_walk n' false (R := 0) rfl HI.out.dg ⟨o1, o2⟩ ⟨o3, o5⟩ W)
          have WT := hid (fun W => rchild_walk n' true (R := 1) rfl HI.out.dg ⟨o1, o2⟩ ⟨o3, o5⟩ W)
          rw [← hCF] at WF
          rw [← hCT] at WT
          have WR := hid (fun W => covers_walk CF a (by rw [hCF]; simp [child]; omega) AB.out W)
          have HL := hid (show ∀ w', wr.grownBy w' none → (Instr.loadAt 91 (.pointer (some ⟨B, 0, none⟩))).run Try.prog w' = .ok (nval n') w' from fun w' g => loadsAt TN'.out (rangeAt_row (row_of g HI.out.hb (by simp))))
          clear hCF hCT
          refine wp_seq_k fun K1 k1 => ?_
          have HK1 := hid k1
          clear k1
          go_wp2
          refine HK1.out _ _ ?_
          clear HK1 c8 c9 y8 t1
          refine wp_block ?_
          refine wp_seq_k fun K2 k2 => ?_
          have HK2 := hid k2
          clear k2
          refine region_tail (by kernel_rfl) 80 rfl 6 [none, none, none, none, none, none, none, none, none, none, some (Sp.new wr.heap.size (ncells ⟨0, 0, zs 32⟩) 91), some (Sp.new wr.heap.size (ncells ⟨0, 0, zs 32⟩) 91), none, none, none, none, none, none, none, none, none, none, none, none, none, none, none, none, none, none, none, none, none, none, none, none, none, none, none, some (Sp.is (nval n')), some (Sp.is (nval CF)), some (Sp.is (nval n')), some (Sp.is (nval CT)), none, none, none, none, none, none, none, none, none, none, none, none, none, none, none, none, none, none, none, none, none, none, none, none, none, none, none, none, none, none, none, none, none, none, none, none, none]
            (by kernel_rfl) (by kernel_rfl) (by kernel_rfl)
            ⟨ob_loadT rfl rfl trivial ⟨by decide, fun _ _ h => h⟩ HL.out (fun _ => rfl),
             ob_call2 [nval n', .int .i64 0] rfl rfl trivial ⟨⟨by decide, fun _ _ h => h⟩, rfl, trivial⟩ (fun W _ => (WF.out W).mono fun e W' ⟨h1, h2⟩ => ⟨_, h1, h2, rfl⟩) (enter_of Try.func59 (by kernel_rfl) rfl),
             ob_loadT rfl rfl trivial ⟨by decide, fun _ _ h => h⟩ HL.out (fun _ => rfl),
             ob_call2 [nval n', .int .i64 1] rfl rfl trivial ⟨⟨by decide, fun _ _ h => h⟩, rfl, trivial⟩ (fun W _ => (WT.out W).mono fun e W' ⟨h1, h2⟩ => ⟨_, h1, h2, rfl⟩) (enter_of Try.func59 (by kernel_rfl) rfl),
             ob_alloc rfl trivial (Nat.le_refl _) (fun a w => by kernel_rfl) (fun _ _ h => h),
             ob_alloc rfl trivial (Nat.le_refl _) (fun a w => by kernel_rfl) (fun _ _ h => h), trivial⟩
            [10, 11] (by kernel_rfl) (LaysAll.at ⟨.inl rfl, .inl rfl, .inl rfl, .inl rfl, .inr ⟨rfl, (ncells ⟨0, 0, zs 32⟩).toArray, 91, fun a w => by kernel_rfl⟩, .inr ⟨rfl, (ncells ⟨0, 0, zs 32⟩).toArray, 91, fun a w => by kernel_rfl⟩, trivial⟩) (fun t ht => by simp at ht; rcases ht with rfl | rfl <;> exact ⟨_, rfl, Sp.new_lt⟩) ?rest
          case rest =>
            intro x W3 g3 hx hne
            obtain ⟨A7, e7, b7, h7⟩ := hx 10 _ rfl (by decide)
            obtain ⟨A8, e8, b8, h8⟩ := hx 11 _ rfl (by decide)
            have e12 : x 39 = nval n' := hx 39 _ rfl (by decide)
            have e13 : x 40 = nval CF := hx 40 _ rfl (by decide)
            have e14 : x 41 = nval n' := hx 41 _ rfl (by decide)
            have e15 : x 42 = nval CT := hx 42 _ rfl (by decide)
            have hne := hne 10 (by decide) 11 (by decide) (by decide)
            rw [e7, e8] at hne
            have HNE := hid (show A7 ≠ A8 from fun e => hne (by rw [e]))
            simp only [fillO]
            rw [e7, e8, e12, e13, e14, e15]
            have H7 := hid h7
            have H8 := hid h8
            have G3' := hid g3
            have NB7 := hid b7
            have NB8 := hid b8
            clear hx e7 e8 e12 e13 e14 e15 hne h7 h8 g3 b7 b8 HL WF WT
            simp only [List.drop_succ_cons, List.drop_zero]
            go_wp2_with (first
              | (refine wpList_storeTYg rfl 91 (.tmp 10) (.tmp 40) rfl rfl rfl (tyN CF DF.out.1) H7.out (by rw [List.size_toArray, ncells_len _ (by simp [zs]), ncells_len _ DF.out.1]) ?_; intro W4 g4 h4; have G4' := hid g4; have P4 := hid h4; have Q4 := hid (row_of g4 H8.out (fun e => HNE.out (Option.some.inj e).symm)); clear g4 h4)
              | (refine wpList_storeTYg rfl 91 (.tmp 11) (.tmp 42) rfl rfl rfl (tyN CT DT.out.1) Q4.out (by rw [List.size_toArray, ncells_len _ (by simp [zs]), ncells_len _ DT.out.1]) ?_; intro W5 g5 h5; have G5 := hid g5; have P8 := hid h5; have P7 := hid (row_of g5 P4.out (fun e => HNE.out (Option.some.inj e))); clear g5 h5)
              | fail)
            have GW := hid (grown_newR (grown_newR G3'.out G4'.out NB7.out) G5.out NB8.out)
            have HI5 := hid (HI.out.kn GW.out)
            refine HK2.out _ _ ?_
            clear HK2 H7 H8 Q4 P4 G3' G4' G5
            refine wp_seq_k fun K3 k3 => ?_
            have HK3 := hid k3
            clear k3
            go_wp2_with (first
              | (refine wpList_loadTY rfl 91 (.tmp 10) rfl rfl (tyN CF DF.out.1) P7.out ?_)
              | fail)
            refine (WR.out _).mono ?_
            rintro e W6 ⟨rfl, g6⟩
            have HI6 := hid (HI5.out.kn g6)
            have P7 := hid (row_of g6 P7.out (by simp))
            have P8 := hid (row_of g6 P8.out (by simp))
            have HLEN := hid HI6.out.len
            have HBB := hid (show w3.heap.size ≤ B by rw [HB.out]; exact Nat.le_refl _)
            obtain ⟨l1, hl1⟩ : ∃ x, x = L.length := ⟨_, rfl⟩
            obtain ⟨l2, hl2⟩ : ∃ x, x = R.length := ⟨_, rfl⟩
            have HLl1 := hid hl1
            have HLl2 := hid hl2
            have OS := hid (show Own W6 91 34 (.slice sa l1 sc) l1 (tcells L) from by rw [hl1]; exact HI6.out.os)
            have OG := hid (show Own W6 91 34 (.slice ga l2 gc) l2 (tcells R) from by rw [hl2]; exact HI6.out.og)
            have ES := hid (show l1 + 1 ≤ 1099511627776 from by have := HLEN.out; omega)
            have EG := hid (show 1 + l2 ≤ 1099511627776 from by have := HLEN.out; omega)
            have SQ := hid (show some A8 ≠ (Value.slice sa l1 sc).ownBlock from fun e => by have h := Own.lt HI.out.os _ (show (Value.slice sa L.length sc).ownBlock = some A8 from by have h := e.symm; rw [hl1] at h; exact h); have h2 := NB8.out; omega)
            have SB := hid (show some B ≠ (Value.slice sa l1 sc).ownBlock from fun e => (HI6.out.bs _ (by rw [← hl1]; exact e.symm)).2 rfl)
            rw [← hl1, ← hl2]
            clear g6 GW hl1 hl2 o1 o3 o5 o2
            go_wp2
            refine HK3.out _ _ ?_
            clear HK3
            by_cases hbit : cov CF a = true
            · have HBT := hid (show cov (child n' false) a = true by rw [← HCF.out]; exact hbit)
              rw [hbit]
              clear hbit
              have B6 := hid ((ncell0 HI6.out.hb).2.2)
              go_wp2_with (first
                | (refine wpList_storeTYg rfl 91 (.tmp 9) (.tmp 50) rfl rfl rfl (tyN CF DF.out.1) B3.out (by rw [List.size_toArray, ncells_len _ HI6.out.dg.1, ncells_len _ DF.out.1]) ?_; intro w4 g4 h4; have G4' := hid g4; have H4' := hid h4; clear g4 h4)
                | (refine wpList_loadTY rfl 91 (.tmp 11) rfl rfl (tyN CT DT.out.1) P8.out ?_)
                | (refine wpList_buildSliceR rfl 32 1 _ rfl #[(0, nval CT)] (by simp only [List.map_toArray, List.map_cons, List.map_nil, Act.eval]; rfl) (bS1 CT DT.out.1 _) ?_)
                | (refine wpList_app nodesT rfl (.tmp 47) (.tmp 48) rfl (.slice (some ⟨W6.heap.size, 0, none⟩) 1 1) 1 (ncells CT) rfl (own_lit W6 CT DT.out.1) (.slice ga l2 gc) l2 (tcells R) rfl (Sl.kn (Sl.of_own OG.out) (World.grownBy_alloc _ _ _)) (tcells_one' _) EG.out ?_; intro v3 w3' o3 s3; obtain ⟨ad3, cp3, rfl, _⟩ := (Sl.of_own o3).shape; have O3 := hid o3; have S3 := hid (show W6.grownBy w3' none from grown_newR (World.grownBy_alloc W6 _ none) s3.1 (Nat.le_refl _)); have S4 := hid (show ∀ k, (Value.slice ad3 (1 + l2) cp3).ownBlock = some k → W6.heap.size ≤ k from fun k hk => (s3.2 k hk).elim (fun h => by simp [Value.ownBlock] at h; omega) (fun h => by simp at h; omega)); have Q3 := hid (row_of S3.out P7.out (by simp)); have B3 := hid (row_of S3.out HI6.out.hb (by simp)); clear o3 s3)
                | (refine wpList_loadTY rfl 91 (.tmp 10) rfl rfl (tyN CF DF.out.1) Q3.out ?_)
                | fail)
              have RR := HI6.out.left HBB.out HBT.out hlt (by rw [← HLl2.out, ← HCT.out]; exact O3.out) S3.out S4.out G4'.out (by rw [← HCF.out]; exact H4'.out)
              have c10 := (ncell0 H4'.out).1
              go_frame
              go_roundw
              case rel =>
                have hl : (child n' true :: R).length = 1 + l2 := by rw [List.length_cons, ← HLl2.out, Nat.add_comm]
                exact ⟨child n' false, L, child n' true :: R, sa, sc, ad3, cp3, by rw [← HLl1.out], by rw [hl], hid (by rw [hl]; exact RR)⟩
              case measure =>
                rw [MU.out, c10, HCF.out]
                show (34 - (n'.d + 1)).toNat < (34 - n'.d).toNat
                omega
            · have HBT := hid (show cov (child n' false) a = false by rw [← HCF.out]; simpa using hbit)
              rw [show cov CF a = false by simpa using hbit]
              clear hbit
              go_wp2_with (first
                | (refine wpList_storeTYg rfl 91 (.tmp 9) (.tmp 55) rfl rfl rfl (tyN CT DT.out.1) B3.out (by rw [List.size_toArray, ncells_len _ HI6.out.dg.1, ncells_len _ DT.out.1]) ?_; intro w4 g4 h4; have G4' := hid g4; have H4' := hid h4; clear g4 h4)
                | (refine wpList_loadTY rfl 91 (.tmp 10) rfl rfl (tyN CF DF.out.1) P7.out ?_)
                | (refine wpList_buildSliceR rfl 32 1 _ rfl #[(0, nval CF)] (by simp only [List.map_toArray, List.map_cons, List.map_nil, Act.eval]; rfl) (bS1 CF DF.out.1 _) ?_)
                | (refine wpList_pushH nodesT rfl (.tmp 51) (.tmp 53) rfl (.slice sa l1 sc) l1 (tcells L) rfl OS.out (ncells CF) 1 _ rfl rfl (by rw [ncells_len _ DF.out.1]) (ncells_one _) ES.out ?_; intro v3 w3' o3 s3; obtain ⟨ad3, cp3, rfl, _⟩ := (Sl.of_own o3).shape; have O3 := hid o3; have S3 := hid s3; have Q3 := hid (row_of s3.1 P8.out SQ.out); have B3 := hid (row_of s3.1 HI6.out.hb SB.out); clear o3 s3)
                | (refine wpList_loadTY rfl 91 (.tmp 11) rfl rfl (tyN CT DT.out.1) Q3.out ?_)
                | fail)
              have RR := HI6.out.right HBB.out HBT.out hlt (by rw [← HLl1.out, ← HCF.out]; exact O3.out) (by rw [← HLl1.out]; exact S3.out) G4'.out (by rw [← HCT.out]; exact H4'.out)
              have c10 := (ncell0 H4'.out).1
              go_frame
              go_roundw
              case rel =>
                have hl : (L ++ [child n' false]).length = l1 + 1 := by rw [List.length_append, ← HLl1.out]; rfl
                exact ⟨child n' true, L ++ [child n' false], R, ad3, cp3, ga, gc, by rw [hl], by rw [← HLl2.out], hid (by rw [hl]; exact RR)⟩
              case measure =>
                rw [MU.out, c10, HCT.out]
                show (34 - (n'.d + 1)).toNat < (34 - n'.d).toNat
                omega
        · have t1 : decide (n'.d < 34) = false := decide_eq_false hlt
          have HDN := hid (show L ++ R = oth a (34 - n0.d).toNat n0 from by
            have h := HI.out.dn
            rw [show (34 - n'.d).toNat = 0 by omega] at h
            have h2 := downR_oth a (34 - n0.d).toNat n0 [] [] (by have := okN_iff.1 HNO.out; omega) HCV.out
            rw [← h] at h2
            simpa [downR] using h2)
          obtain ⟨l1, hl1⟩ : ∃ x, x = L.length := ⟨_, rfl⟩
          obtain ⟨l2, hl2⟩ : ∃ x, x = R.length := ⟨_, rfl⟩
          have HLl1 := hid hl1
          have HLl2 := hid hl2
          have hlen := HI.out.len
          have BL := hid (show l1 ≤ 34 ∧ l2 ≤ 34 from ⟨by omega, by omega⟩)
          rw [← hl1, ← hl2]
          have GR3 := hid (grown_trans G3.out HI.out.gr)
          have cT := HI.out.gr.cell c0 (by simp)
          have yT := block_lt_of_cell cT
          clear hl1 hl2 hlen o1 o2 o3 o4 o5 c0 y0
          go_wp2
          clear c8 c9 y8 t1
          obtain ⟨W, hW⟩ : ∃ W, W = wr.alloc (.cells #[.slice none 0 0] 34) := ⟨_, rfl⟩
          have SW := hid (show Sl W 34 (.slice (some ⟨b, off, none⟩) m cap) m (tcells (l.map (·.1))) from by
            have h := ((HR.out.kn GR3.out).kn (show wr.grownBy W none from by rw [hW]; exact World.grownBy_alloc _ _ _)).1.1
            rw [List.length_map, ← HM.out] at h
            exact h)
          have GW := hid (show wr.grownBy W none from by rw [hW]; exact World.grownBy_alloc _ _ _)
          have c2 : W.cell? ⟨w.heap.size, 0, none⟩ = some (.slice (some ⟨b, off, none⟩) m cap) := GW.out.cell cT (by simp)
          have R12 := hid (show W.heap[wr.heap.size]? = some (.cells #[.slice none 0 0] 34 (0, 0)) from by rw [hW, World.alloc_heap_new])
          have c12 : W.cell? ⟨wr.heap.size, 0, none⟩ = some (.slice none 0 0) := by rw [cell_of_row _ _ _ _ _ _ R12.out]; rfl
          have y2 := block_lt_of_cell c2
          have y12 := block_lt_of_cell c12
          try rw [← hW]
          clear hW
          have q1 : (i : Int) ≤ (cap : Int) := by omega
          have q2 : (i : Int) + 1 ≤ (m : Int) := by omega
          have q3 : (m : Int) ≤ (cap : Int) := by omega
          clear cT yT
          have LD := hid (show ∀ n ∈ l.map (·.1), Dg n.k from fun n hn => by obtain ⟨x, _, rfl⟩ := List.mem_map.1 hn; exact x.2.1)
          have LM := hid (show (l.map (·.1)).length = m from by rw [List.length_map, ← HM.out])
          have ML := hid (show m ≤ 32768 from by have h := HVL.out; unfold vld at h; rw [LM.out] at h; simp at h; exact h.1)
          obtain ⟨a5, c5, r5, s5, _⟩ := run_slice_sl (P := Try.prog) Try.underlying32 (show (Try.prog.info? 91).map (·.size) = some 34 by kernel_rfl) SW.out 0 i none (some (.int .i64 i)) (.inr ⟨rfl, rfl⟩) (.inl rfl) (Nat.zero_le _) (by omega)
          obtain ⟨a15, c15, r15, s15, _⟩ := run_slice_sl (P := Try.prog) Try.underlying32 (show (Try.prog.info? 91).map (·.size) = some 34 by kernel_rfl) SW.out (i + 1) m (some (.int .i64 ((i + 1 : Nat) : Int))) none (.inl rfl) (.inr ⟨rfl, rfl⟩) (by omega) (Nat.le_refl _)
          rw [Nat.sub_zero] at r5 s5
          have S5 := hid (show Sl W 34 (.slice a5 i c5) i (tcells ((l.map (·.1)).take i)) from by
            rw [Nat.zero_mul, List.drop_zero, tcells_take LD.out] at s5; exact s5)
          have S15 := hid (show Sl W 34 (.slice a15 (m - (i + 1)) c15) (m - (i + 1)) (tcells ((l.map (·.1)).drop (i + 1))) from by
            rw [tcells_drop LD.out, List.take_of_length_le (by rw [dcells_len (fun n hn => LD.out n (List.mem_of_mem_drop hn)), List.length_drop, LM.out]; exact Nat.le_refl _)] at s15; exact s15)
          have R5 := hid r5
          have R15 := hid r15
          have OS := hid (show Own W 91 34 (.slice sa l1 sc) l1 (tcells L) from by have h := HI.out.os.kn GW.out; rw [← HLl1.out] at h; exact h)
          have OG := hid (show Own W 91 34 (.slice ga l2 gc) l2 (tcells R) from by have h := HI.out.og.kn GW.out; rw [← HLl2.out] at h; exact h)
          have MB := hid hm0
          clear r5 s5 r15 s15 q1 q2 q3
          refine region_script (fun w' => w'.cell? ⟨w.heap.size, 0, none⟩ = some (.slice (some ⟨b, off, none⟩) m cap)) [0, 2, 3, 4, 5, 7, 9, 11, 12, 13, 14, 15] [1, 6, 8, 10, 16, 17, 18] (by kernel_rfl) (by kernel_rfl) (fun _ _ d _ _ h => by cases d <;> exact h) rfl (by kernel_rfl) c2 ?_
          simp only [List.filterMap_cons, List.filterMap_nil, List.getElem?_toArray, List.getElem?_cons_succ, List.getElem?_cons_zero]
          refine take_run rfl (v := .pointer (some ⟨wr.heap.size, 0, none⟩)) (fun _ _ => by go_simp) ?_
          simp only [Act.put, List.setIfInBounds_toArray, List.set_cons_zero, List.set_cons_succ]
          refine take_run rfl (v := .pointer (some ⟨w.heap.size, 0, none⟩)) (fun _ _ => by go_simp) ?_
          simp only [Act.put, List.setIfInBounds_toArray, List.set_cons_zero, List.set_cons_succ]
          refine take_load rfl 32 (.tmp 58) (p := .pointer (some ⟨w.heap.size, 0, none⟩)) rfl rfl (fun _ h => loadsAt (tyNs (.slice (some ⟨b, off, none⟩) m cap) rfl) (rangeAt_one h)) ?_
          simp only [Act.put, List.setIfInBounds_toArray, List.set_cons_zero, List.set_cons_succ]
          refine take_move rfl (.tmp 6) rfl rfl ?_
          simp only [Act.put, List.setIfInBounds_toArray, List.set_cons_zero, List.set_cons_succ]
          refine take_slice rfl 32 (.tmp 59) none (some (.tmp 60)) rfl rfl rfl rfl R5.out ?_
          simp only [Act.put, List.setIfInBounds_toArray, List.set_cons_zero, List.set_cons_succ]
          refine take_move rfl (.tmp 7) rfl rfl ?_
          simp only [Act.put, List.setIfInBounds_toArray, List.set_cons_zero, List.set_cons_succ]
          refine take_move rfl (.tmp 8) rfl rfl ?_
          simp only [Act.put, List.setIfInBounds_toArray, List.set_cons_zero, List.set_cons_succ]
          refine take_run rfl (v := .pointer (some ⟨w.heap.size, 0, none⟩)) (fun _ _ => by go_simp) ?_
          simp only [Act.put, List.setIfInBounds_toArray, List.set_cons_zero, List.set_cons_succ]
          refine take_load rfl 32 (.tmp 67) (p := .pointer (some ⟨w.heap.size, 0, none⟩)) rfl rfl (fun _ h => loadsAt (tyNs (.slice (some ⟨b, off, none⟩) m cap) rfl) (rangeAt_one h)) ?_
          simp only [Act.put, List.setIfInBounds_toArray, List.set_cons_zero, List.set_cons_succ]
          refine take_move rfl (.tmp 6) rfl rfl ?_
          simp only [Act.put, List.setIfInBounds_toArray, List.set_cons_zero, List.set_cons_succ]
          refine take_run rfl (v := .int .i64 ((i + 1 : Nat) : Int)) (fun _ _ => by go_simp; exact wrap_succ (by omega)) ?_
          simp only [Act.put, List.setIfInBounds_toArray, List.set_cons_zero, List.set_cons_succ]
          refine take_slice rfl 32 (.tmp 68) (some (.tmp 70)) none rfl rfl rfl rfl R15.out ?_
          simp only [Act.put, List.setIfInBounds_toArray, List.set_cons_zero, List.set_cons_succ]
          have g0 := grown_drew W
          change wpList _ _ _ _ _ _
          refine wpList_loadAt rfl 32 (.tmp 56) rfl (b := wr.heap.size) (k := 0) (cs := [.slice none 0 0]) rfl (tyNs (.slice none 0 0) rfl) (rangeAt_one (g0.cell c12 (by simp))) ?_
          refine ⟨g0.cell c2 (by simp), ?_⟩
          simp only [Act.put, List.setIfInBounds_toArray, List.set_cons_zero, List.set_cons_succ]
          change wpList _ _ _ _ _ _
          refine wpList_app nodesT rfl (.tmp 57) (.tmp 61) rfl (.slice none 0 0) (0) ([]) rfl (World.ownsRow_nil _ _ _ _) (.slice a5 i c5) (i) (tcells ((l.map (·.1)).take i)) rfl (S5.out.kn g0) (tcells_one' _) (by have := BL.out; have := ML.out; omega) ?_
          intro v6 w6 o6 s6
          have g6 : W.grownBy w6 none := grown_trans g0 s6.1
          have f6 : ∀ k, v6.ownBlock = some k → W.heap.size ≤ k := fun k hk => (s6.2 k hk).elim (fun h => by simp [Value.ownBlock] at h) (fun h => Nat.le_trans g0.size h)
          refine ⟨g6.cell c2 (by simp), ?_⟩
          simp only [Act.put, List.setIfInBounds_toArray, List.set_cons_zero, List.set_cons_succ]
          change wpList _ _ _ _ _ _
          refine wpList_app nodesT rfl (.tmp 62) (.tmp 63) rfl v6 (0 + i) ([] ++ tcells ((l.map (·.1)).take i)) rfl o6 (.slice sa l1 sc) (l1) (tcells L) rfl (Sl.of_own (OS.out.kn g6)) (tcells_one' _) (by have := BL.out; have := ML.out; omega) ?_
          intro v8 w8 o8 s8
          have g8 : W.grownBy w8 none := grown_from g6 s8.1 f6
          have f8 : ∀ k, v8.ownBlock = some k → W.heap.size ≤ k := fun k hk => (s8.2 k hk).elim (f6 k) (fun h => Nat.le_trans g6.size h)
          refine ⟨g8.cell c2 (by simp), ?_⟩
          simp only [Act.put, List.setIfInBounds_toArray, List.set_cons_zero, List.set_cons_succ]
          change wpList _ _ _ _ _ _
          refine wpList_app nodesT rfl (.tmp 64) (.tmp 65) rfl v8 (0 + i + l1) ([] ++ tcells ((l.map (·.1)).take i) ++ tcells L) rfl o8 (.slice ga l2 gc) (l2) (tcells R) rfl (Sl.of_own (OG.out.kn g8)) (tcells_one' _) (by have := BL.out; have := ML.out; omega) ?_
          intro v10 w10 o10 s10
          have g10 : W.grownBy w10 none := grown_from g8 s10.1 f8
          have f10 : ∀ k, v10.ownBlock = some k → W.heap.size ≤ k := fun k hk => (s10.2 k hk).elim (f8 k) (fun h => Nat.le_trans g8.size h)
          refine ⟨g10.cell c2 (by simp), ?_⟩
          simp only [Act.put, List.setIfInBounds_toArray, List.set_cons_zero, List.set_cons_succ]
          change wpList _ _ _ _ _ _
          refine wpList_app nodesT rfl (.tmp 66) (.tmp 71) rfl v10 (0 + i + l1 + l2) ([] ++ tcells ((l.map (·.1)).take i) ++ tcells L ++ tcells R) rfl o10 (.slice a15 (m - (i + 1)) c15) (m - (i + 1)) (tcells ((l.map (·.1)).drop (i + 1))) rfl (S15.out.kn g10) (tcells_one' _) (by have := BL.out; have := ML.out; omega) ?_
          intro v16 w16 o16 s16
          have g16 : W.grownBy w16 none := grown_from g10 s16.1 f10
          have f16 : ∀ k, v16.ownBlock = some k → W.heap.size ≤ k := fun k hk => (s16.2 k hk).elim (f10 k) (fun h => Nat.le_trans g10.size h)
          refine ⟨g16.cell c2 (by simp), ?_⟩
          simp only [Act.put, List.setIfInBounds_toArray, List.set_cons_zero, List.set_cons_succ]
          have HZ2 := hid (show gl = if 32768 < 0 + i + l1 + l2 + (m - (i + 1)) then ([], 8) else ((l.map (·.1)).take i ++ (L ++ R ++ (l.map (·.1)).drop (i + 1)), 0) from by
            rw [HZ.out, ← HDN.out, List.length_append, List.length_append, List.length_append, List.length_take, List.length_drop, LM.out, Nat.min_eq_left (by omega), ← HLl1.out, ← HLl2.out, show i + (l1 + l2 + (m - (i + 1))) = 0 + i + l1 + l2 + (m - (i + 1)) by omega])
          have O16 := hid (show Own w16 91 34 v16 (0 + i + l1 + l2 + (m - (i + 1))) (tcells ((l.map (·.1)).take i ++ (L ++ R ++ (l.map (·.1)).drop (i + 1)))) from by
            have h := o16
            rw [List.nil_append, ← tcells_append, ← tcells_append, ← tcells_append, List.append_assoc, List.append_assoc, ← List.append_assoc L] at h
            exact h)
          have LF := hid (show ((l.map (·.1)).take i ++ (L ++ R ++ (l.map (·.1)).drop (i + 1))).length = 0 + i + l1 + l2 + (m - (i + 1)) from by
            rw [List.length_append, List.length_append, List.length_append, List.length_take, List.length_drop, LM.out, Nat.min_eq_left (by omega), ← HLl1.out, ← HLl2.out]; omega)
          generalize (l.map (·.1)).take i ++ (L ++ R ++ (l.map (·.1)).drop (i + 1)) = FL at *
          obtain ⟨nn, hnn⟩ : ∃ x, x = 0 + i + l1 + l2 + (m - (i + 1)) := ⟨_, rfl⟩
          rw [← hnn] at O16 LF HZ2
          obtain ⟨ad, cp, rfl, _⟩ := (Sl.of_own O16.out).shape
          have F16 := hid f16
          have G16 := hid g16
          have hsz16 := g16.size
          have hszw := GW.out.size
          have hsz3 := HI.out.gr.size
          change wpList _ _ _ _ _ _
          refine wpList_val rfl (v := .pointer (some ⟨wr.heap.size, 0, none⟩)) (w2 := w16) (by go_simp) ?_
          refine ⟨g16.cell c2 (by simp), ?_⟩
          simp only [Act.put, List.setIfInBounds_toArray, List.set_cons_zero, List.set_cons_succ]
          change wpList _ _ _ _ _ _
          refine wpList_storeTYg rfl 32 (.tmp 73) (.tmp 72) rfl rfl rfl (tyNs (.slice ad nn cp) rfl) (row_of g16 R12.out (by simp)) rfl ?_
          intro w18 g18 h18
          have hA : w.heap.size + 2 ≤ wr.heap.size := by have := HS0.out; have := H2S.out; have := H3S.out; omega
          refine ⟨g18.cell (g16.cell c2 (by simp)) (by simp; omega), ?_⟩
          have O18 := hid (O16.out.past g18 (row_of g16 R12.out (by simp)) (by decide))
          have H18 := hid h18
          have Z18 := hid (row_of g18 (row_of g16 (row_of GW.out (row_of HI.out.gr Z1.out (by simp)) (by simp)) (by simp)) (by simp; omega))
          have G18 := hid (grown_newR (grown_trans GR3.out (grown_trans GW.out g16)) g18 (by omega))
          have NN := hid hnn
          have HA := hid hA
          have c18 : w18.cell? ⟨wr.heap.size, 0, none⟩ = some (.slice ad nn cp) := by rw [cell_of_row _ _ _ _ _ _ h18]; rfl
          have y18 := block_lt_of_cell c18
          clear o6 o8 o10 o16 s6 s8 s10 s16 g6 g8 g10 g16 f6 f8 f10 f16 g18 h18 hnn c2 c12 y2 y12 g0 hA hsz16 hszw hsz3
          unfold wpDo
          try simp only [Act.put, List.setIfInBounds_toArray, List.set_cons_zero, List.set_cons_succ]
          by_cases hbig : 32768 < nn
          · have t1 : decide ((32768 : Int) < (nn : Int)) = true := by simp; omega
            have HZ3 := hid (show gl = ([], 8) from by rw [HZ2.out, if_pos hbig])
            clear hbig
            go_wp2_with (first
              | (refine wpList_buildR rfl 34 _ rfl #[] (by simp) (bT0 _) ?_)
              | (refine wpList_storeTYg rfl 34 (.tmp 4) (.tmp 78) rfl rfl rfl (tyT (.slice none 0 0) rfl) Z18.out rfl ?_; intro w5 g5 h5; have G5 := hid g5; have H5 := hid h5; clear g5 h5)
              | fail)
            exact bodyPost_ret (results_ct (p := 4) (q := 5) (b0 := w.heap.size + 1) rfl rfl rfl (tyT (.slice none 0 0) rfl) H5.out) rfl ⟨.slice none 0 0, by rw [HZ3.out]; rfl, by rw [HZ3.out]; exact Sl.nil _ _, fun k hk => (fpT_nil k hk).elim, grown_newR G18.out G5.out (by omega), .inr fun k hk => (by simp [Value.ownBlock] at hk)⟩
          · have t1 : decide ((32768 : Int) < (nn : Int)) = false := by simp; omega
            have HZ3 := hid (show gl = (FL, 0) from by rw [HZ2.out, if_neg hbig])
            clear hbig
            go_wp2_with (first
              | (refine wpList_storeTYg rfl 34 (.tmp 4) (.tmp 79) rfl rfl rfl (tyT (.slice ad nn cp) rfl) Z18.out rfl ?_; intro w5 g5 h5; have G5 := hid g5; have H5 := hid h5; clear g5 h5)
              | fail)
            have O5 := O18.out.past G5.out Z18.out (by decide)
            exact bodyPost_ret (results_ct (p := 4) (q := 5) (b0 := w.heap.size + 1) rfl rfl rfl (tyT (.slice ad nn cp) rfl) H5.out) rfl ⟨.slice ad nn cp, by rw [HZ3.out]; rfl, by rw [HZ3.out, LF.out]; exact Sl.of_own O5, fun k hk => Own.lt O5 k hk.1, grown_newR G18.out G5.out (by omega), .inr fun k hk => Own.block O5 hk⟩
  · have HVL := hid hv
    simp only [Bool.not_eq_true] at hv
    simp only [hv]
    clear hv
    have HZ := hid (show gl = ([], 1) by rw [HV.out]; unfold punOf; rw [if_neg (by rw [Bool.and_eq_true]; exact fun h => HVL.out h.2)])
    go_wp2_with (first
      | (refine wpList_buildR rfl 34 _ rfl #[] (by simp) (bT0 _) ?_)
      | (refine wpList_storeTYg rfl 34 (.tmp 4) (.tmp 24) rfl rfl rfl (tyT (.slice none 0 0) rfl) Z1.out rfl ?_; intro w5 g5 h5; have G5 := hid g5; have H5 := hid h5; clear g5 h5)
      | fail)
    exact bodyPost_ret (results_ct (p := 4) (q := 5) (b0 := w.heap.size + 1) rfl rfl rfl (tyT (.slice none 0 0) rfl) H5.out) rfl ⟨.slice none 0 0, by rw [HZ.out]; rfl, by rw [HZ.out]; exact Sl.nil _ _, fun k hk => (fpT_nil k hk).elim, grown_newR G2.out G5.out (by omega), .inr fun k hk => (by simp [Value.ownBlock] at hk)⟩
end Go.Proofs.Yteakoleceoclkaa
