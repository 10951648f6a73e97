/- Key trees: awake. (printed by gen_k18.py) -/
import Derived.Test.YteakoleceoclkaaE1
namespace Go.Proofs.Yteakoleceoclkaa
open Go.RowKit Go.Shelf
set_option linter.unusedSimpArgs false
set_option linter.unusedVariables false
attribute [local go_sem] Oper.semAt_some

/-- a comparison, its run given -/
theorem wpList_binG {P : Program} {ops : Array Oper} {rest : List Oper} {o : Oper} {a : Act} {w : World} {Q : Exit → Act → World → Prop} (hw : Region.wanted o (yielded ops a.tmps) = true) (b : BinOp) (ty ty2 : TypeId) (x y : Operand) (ho : o.op = .binOp b ty x y ty2)
    {vx vy v : Value} (hx : a.eval x = vx) (hy : a.eval y = vy) (hr : (do eqGuard b ty x y vx vy; binOp b ty vx vy : Sem Value).run P w = .ok v w) (h : wpList P ops Q rest (a.put o.dst v) w) : wpList P ops Q (o :: rest) a w := by
  refine wpList_onG hw fun K hK => ?_
  unfold Oper.wp execOp
  simp only [ho, hx, hy]
  simp only [Sem.run_bind] at hr ⊢
  cases hg : (eqGuard b ty x y vx vy).run P w with
  | ok u w1 =>
    rw [hg] at hr
    simp only [Result.andThen_ok] at hr ⊢
    rw [hr]
    exact hK _ _ h
  | halt u w1 =>
    rw [hg] at hr
    cases hr
theorem dig_same (x : List Nat) (hx : Dg x) (px py : Operand) (w : World) : (do eqGuard .eql 29 px py (dval x) (dval x); binOp .eql 29 (dval x) (dval x) : Sem Value).run Try.prog w = .ok (.bool true) w := by
  have h := (dig_eqb hx hx px py w).1
  simpa using h
def k1 : List Nat := 1 :: zs 31
theorem dk1 : Dg k1 := ⟨rfl, by intro x hx; simp [k1, zs] at hx; omega⟩
theorem bD1 (w : World) : (Instr.build 29 #[(0, .int .u8 1)]).run Try.prog w = .ok (dval k1) w := by kernel_rfl
/-- the plain law of the example -/
theorem awake_plain : ∃ K, Dg K ∧ leafOf (tree k1 []) 1 = (K, 0) ∧ punOf (tree k1 []) 0 = (tree k1 [0], 0) ∧ (tree k1 [0]).length = 34 ∧ leafOf (tree k1 [0]) 1 = (K, 0) ∧ leafOf (tree k1 [0]) 0 = (zero32, 10) ∧ gaps (tree k1 [0]) = [(0, 1)] := by
  have h0 : isAddr 0 = true := by decide
  have h1 : isAddr 1 = true := by decide
  have v0 := tree_vld_of k1 [] (by simp)
  have v1 := tree_vld_of k1 [0] (by simp)
  have hl := leaf_tree k1 [] 1 v0 h1
  have hl1 := leaf_tree k1 [0] 1 v1 h1
  have hl0 := leaf_tree k1 [0] 0 v1 h0
  rw [if_neg (by simp)] at hl hl1
  rw [if_pos (by simp)] at hl0
  refine ⟨_, desc_dg 1 34 (root k1) dk1, hl, punOf_tree (by simp) h0, ?_, hl1, hl0, ?_⟩
  · rw [← tree_pun k1 [] 0, tree_nil]
    unfold pun
    rw [List.flatMap_cons, List.flatMap_nil, if_pos (cov_root k1 h0), List.append_nil, oth_len]
    rfl
  · refine norm_unique (gaps_norm v1) ⟨by simp, by simp⟩ fun x => ?_
    rw [gaps_tree v1 x, inG_one]
    simp only [List.mem_singleton]
    constructor
    · rintro ⟨_, rfl⟩; omega
    · intro h; obtain rfl : x = 0 := by omega
      exact ⟨h0, rfl⟩
set_option maxRecDepth 100000 in
set_option maxHeartbeats 4000000 in
theorem awake_walk (w : World) : Calls Try.prog 19 #[] w fun e w' => e = .returned (.bool true) ∧ w.grownBy w' none := by
  obtain ⟨K, hK, p1, p2, p3, p4, p5, p6⟩ := awake_plain
  have DK := hid hK
  have P1 := hid p1
  have P2 := hid p2
  have P3 := hid p3
  have P4 := hid p4
  have P5 := hid p5
  have P6 := hid p6
  clear hK p1 p2 p3 p4 p5 p6
  go_enter Try.func19, Try.ntmps19
  refine wp_seq_k fun K0 k0 => ?_
  have HK0 := hid k0
  clear k0
  go_wp2
  refine HK0.out _ _ ?_
  clear HK0
  refine wp_seq_k fun K1 k1h => ?_
  have HK1 := hid k1h
  clear k1h
  go_wp2_with (first
    | (refine wpList_buildR rfl 29 _ rfl #[(0, .int .u8 1)] (by simp only [List.map_toArray, List.map_cons, List.map_nil, Act.eval]; rfl) (bD1 _) ?_)
    | fail)
  refine (new_call dk1).mono ?_
  rintro e W1 ⟨ao1, cap1, rfl, h1, g1⟩
  have G1 := hid g1
  have T1 := hid h1
  clear h1 g1
  go_wp2_with (first
    | (refine wpList_storeTYg rfl 34 (.tmp 1) (.tmp 14) rfl rfl rfl (tyT (.slice ao1 1 cap1) rfl) (heap_at rfl) rfl ?_; intro W2 g2 h2; have G2 := hid (grown_newR (World.grownBy_alloc W1 _ none) g2 (Nat.le_refl _)); have H2 := hid h2; clear g2 h2)
    | fail)
  try go_frame
  obtain ⟨B1, hB1⟩ : ∃ x, x = W1.heap.size := ⟨_, rfl⟩
  rw [← hB1] at H2 ⊢
  clear hB1
  have HG := hid (grown_trans G1.out G2.out)
  have HB1 := H2
  have HT1 := hid (T1.out.kn G2.out)
  clear G1 G2 H2 T1
  refine HK1.out _ _ ?_
  clear HK1
  refine wp_seq_k fun K2 k2h => ?_
  have HK2 := hid k2h
  clear k2h
  have c2 : W2.cell? ⟨B1, 0, none⟩ = some (.slice ao1 1 cap1) := by rw [cell_of_row _ _ _ _ _ _ HB1.out]; rfl
  have y2 := block_lt_of_cell c2
  go_wp2_with fail
  refine (leaf_call P1.out HT1.out).mono ?_
  rintro e V2 ⟨rfl, g⟩
  clear c2 y2
  replace HB1 := hid (row_of g HB1.out (by simp))
  replace HT1 := hid (HT1.out.kn g)
  replace HG := hid (grown_trans HG.out g)
  clear g
  go_wp2_with (first
    | (refine wpList_storeTYg rfl 29 (.tmp 2) (.tmp 18) rfl rfl rfl (tyD K DK.out.1) (heap_at rfl) (by rw [bv_length, DK.out.1]; rfl) ?_; intro W3 g2 h2; have G2 := hid (grown_newR (World.grownBy_alloc V2 _ none) g2 (Nat.le_refl _)); have H2 := hid h2; clear g2 h2)
    | fail)
  try go_frame
  obtain ⟨B2, hB2⟩ : ∃ x, x = V2.heap.size := ⟨_, rfl⟩
  rw [← hB2] at H2 ⊢
  clear hB2
  replace HB1 := hid (row_of G2.out HB1.out (by simp))
  replace HT1 := hid (HT1.out.kn G2.out)
  replace HG := hid (grown_trans HG.out G2.out)
  have HB2 := H2
  clear G2 H2
  refine HK2.out _ _ ?_
  clear HK2
  refine wp_seq_k fun K3 k3h => ?_
  have HK3 := hid k3h
  clear k3h
  have c3 : W3.cell? ⟨B1, 0, none⟩ = some (.slice ao1 1 cap1) := by rw [cell_of_row _ _ _ _ _ _ HB1.out]; rfl
  have y3 := block_lt_of_cell c3
  go_wp2_with fail
  refine (punct_call P2.out HT1.out).mono ?_
  rintro e V3 ⟨ao2, cap2, rfl, h1, g⟩
  rw [show ((tree k1 [0], (0 : Int)).1).length = 34 from P3.out] at h1 ⊢
  have T2 := hid h1
  clear h1 c3 y3
  replace HB1 := hid (row_of g HB1.out (by simp))
  replace HB2 := hid (row_of g HB2.out (by simp))
  replace HG := hid (grown_trans HG.out g)
  clear g HT1
  go_wp2_with (first
    | (refine wpList_storeTYg rfl 34 (.tmp 4) (.tmp 23) rfl rfl rfl (tyT (.slice ao2 34 cap2) rfl) (heap_at rfl) rfl ?_; intro W4 g2 h2; have G2 := hid (grown_newR (World.grownBy_alloc V3 _ none) g2 (Nat.le_refl _)); have H2 := hid h2; clear g2 h2)
    | fail)
  try go_frame
  obtain ⟨B4, hB4⟩ : ∃ x, x = V3.heap.size := ⟨_, rfl⟩
  rw [← hB4] at H2 ⊢
  clear hB4
  replace HB1 := hid (row_of G2.out HB1.out (by simp))
  replace HB2 := hid (row_of G2.out HB2.out (by simp))
  replace HG := hid (grown_trans HG.out G2.out)
  have HB4 := H2
  have HT2 := hid (T2.out.kn G2.out)
  clear G2 H2 T2
  refine HK3.out _ _ ?_
  clear HK3
  refine wp_seq_k fun K4 k4h => ?_
  have HK4 := hid k4h
  clear k4h
  have c4 : W4.cell? ⟨B4, 0, none⟩ = some (.slice ao2 34 cap2) := by rw [cell_of_row _ _ _ _ _ _ HB4.out]; rfl
  have y4 := block_lt_of_cell c4
  go_wp2_with fail
  refine (leaf_call P4.out HT2.out).mono ?_
  rintro e V4 ⟨rfl, g⟩
  clear c4 y4
  replace HB1 := hid (row_of g HB1.out (by simp))
  replace HB2 := hid (row_of g HB2.out (by simp))
  replace HB4 := hid (row_of g HB4.out (by simp))
  replace HT2 := hid (HT2.out.kn g)
  replace HG := hid (grown_trans HG.out g)
  clear g
  go_wp2_with (first
    | (refine wpList_storeTYg rfl 29 (.tmp 6) (.tmp 28) rfl rfl rfl (tyD K DK.out.1) (heap_at rfl) (by rw [bv_length, DK.out.1]; rfl) ?_; intro W5 g2 h2; have G2 := hid (grown_newR (World.grownBy_alloc V4 _ none) g2 (Nat.le_refl _)); have H2 := hid h2; clear g2 h2)
    | fail)
  try go_frame
  obtain ⟨B6, hB6⟩ : ∃ x, x = V4.heap.size := ⟨_, rfl⟩
  rw [← hB6] at H2 ⊢
  clear hB6
  replace HB1 := hid (row_of G2.out HB1.out (by simp))
  replace HB2 := hid (row_of G2.out HB2.out (by simp))
  replace HB4 := hid (row_of G2.out HB4.out (by simp))
  replace HT2 := hid (HT2.out.kn G2.out)
  replace HG := hid (grown_trans HG.out G2.out)
  have HB6 := H2
  clear G2 H2
  refine HK4.out _ _ ?_
  clear HK4
  refine wp_seq_k fun K5 k5h => ?_
  have HK5 := hid k5h
  clear k5h
  have c5 : W5.cell? ⟨B4, 0, none⟩ = some (.slice ao2 34 cap2) := by rw [cell_of_row _ _ _ _ _ _ HB4.out]; rfl
  have y5 := block_lt_of_cell c5
  go_wp2_with fail
  refine (leaf_call P5.out HT2.out).mono ?_
  rintro e V5 ⟨rfl, g⟩
  clear c5 y5
  replace HB1 := hid (row_of g HB1.out (by simp))
  replace HB2 := hid (row_of g HB2.out (by simp))
  replace HB4 := hid (row_of g HB4.out (by simp))
  replace HB6 := hid (row_of g HB6.out (by simp))
  replace HT2 := hid (HT2.out.kn g)
  replace HG := hid (grown_trans HG.out g)
  clear g
  go_wp2_with (first
    | (refine wpList_storeTYg rfl 29 (.tmp 8) (.tmp 33) rfl rfl rfl (tyD zero32 (show zero32.length = 32 from rfl)) (heap_at rfl) (by rw [bv_length, (show zero32.length = 32 from rfl)]; rfl) ?_; intro W6 g2 h2; have G2 := hid (grown_newR (World.grownBy_alloc V5 _ none) g2 (Nat.le_refl _)); have H2 := hid h2; clear g2 h2)
    | fail)
  try go_frame
  obtain ⟨B8, hB8⟩ : ∃ x, x = V5.heap.size := ⟨_, rfl⟩
  rw [← hB8] at H2 ⊢
  clear hB8
  replace HB1 := hid (row_of G2.out HB1.out (by simp))
  replace HB2 := hid (row_of G2.out HB2.out (by simp))
  replace HB4 := hid (row_of G2.out HB4.out (by simp))
  replace HB6 := hid (row_of G2.out HB6.out (by simp))
  replace HT2 := hid (HT2.out.kn G2.out)
  replace HG := hid (grown_trans HG.out G2.out)
  have HB8 := H2
  clear G2 H2
  refine HK5.out _ _ ?_
  clear HK5
  refine wp_seq_k fun K6 k6h => ?_
  have HK6 := hid k6h
  clear k6h
  have c6 : W6.cell? ⟨B4, 0, none⟩ = some (.slice ao2 34 cap2) := by rw [cell_of_row _ _ _ _ _ _ HB4.out]; rfl
  have y6 := block_lt_of_cell c6
  go_wp2_with fail
  refine (gaps_call P6.out HT2.out).mono ?_
  rintro e V6 ⟨ao3, cap3, rfl, h1, g⟩
  clear c6 y6
  replace HB1 := hid (row_of g HB1.out (by simp))
  replace HB2 := hid (row_of g HB2.out (by simp))
  replace HB4 := hid (row_of g HB4.out (by simp))
  replace HB6 := hid (row_of g HB6.out (by simp))
  replace HB8 := hid (row_of g HB8.out (by simp))
  replace HG := hid (grown_trans HG.out g)
  have OG := hid (show Own V6 52 2 (.slice ao3 1 cap3) 1 [.int .i64 0, .int .i64 1] from h1)
  clear g h1
  simp only [List.length_cons, List.length_nil, Nat.zero_add]
  go_wp2
  refine HK6.out _ _ ?_
  clear HK6
  refine wp_seq_k fun K7 k7h => ?_
  have HK7 := hid k7h
  clear k7h
  go_wp2_with fail
  refine (address_walk 3 2 _).mono ?_
  rintro e V7 ⟨rfl, rfl⟩
  rw [show addrOf 3 2 = (26, 0) by decide]
  go_wp2
  refine HK7.out _ _ ?_
  clear HK7
  obtain ⟨b3, off3, rfl, hc3⟩ : ∃ b off, ao3 = some ⟨b, off, none⟩ ∧ V7.rangeAt b off [.int .i64 0, .int .i64 1] := by
    obtain ⟨b, off, hb, hc⟩ := Sl.at (Sl.of_own OG.out) 0 (by simp)
    refine ⟨b, off, hb, fun j u hj => ?_⟩
    have hjl := (List.getElem?_eq_some_iff.1 hj).1
    rw [hc j hjl, ← hj, List.getElem?_eq_getElem hjl]
  have HC3 := hid hc3
  have c4 : V7.cell? ⟨B4, 0, none⟩ = some (.slice ao2 34 cap2) := by rw [cell_of_row _ _ _ _ _ _ HB4.out]; rfl
  have y4 := block_lt_of_cell c4
  have d0 : V7.cell? ⟨b3, off3, none⟩ = some (.int .i64 0) := hc3 0 _ rfl
  have d1 : V7.cell? ⟨b3, off3 + 1, none⟩ = some (.int .i64 1) := hc3 1 _ rfl
  have y5 := block_lt_of_cell d0
  clear hc3
  go_wp2_with (first
    | (refine wpList_loadG rfl 29 (.tmp 2) rfl rfl (tyD K DK.out.1) (rangeAt_row HB2.out) ?_)
    | (refine wpList_loadG rfl 29 (.tmp 6) rfl rfl (tyD K DK.out.1) (rangeAt_row HB6.out) ?_)
    | (refine wpList_binG rfl .eql 29 29 (.tmp 52) (.tmp 53) rfl rfl rfl (dig_same K DK.out _ _ _) ?_)
    | (refine wpList_binG rfl .eql 52 52 (.tmp 74) (.tmp 75) rfl rfl rfl (gap_eqb (by decide) (by decide) (by decide) (by decide) _ _ _).1 ?_)
    | fail)
  go_ret
  exact ⟨rfl, HG.out⟩
end Go.Proofs.Yteakoleceoclkaa
