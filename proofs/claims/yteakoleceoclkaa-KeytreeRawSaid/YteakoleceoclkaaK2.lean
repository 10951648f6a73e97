/- Key trees: children. -/
import Derived.Test.YteakoleceoclkaaK1
namespace Go.Proofs.Yteakoleceoclkaa
open Go.RowKit
set_option linter.unusedSimpArgs false
set_option linter.unusedVariables false

/-- the key of a child -/
def ck (r : Bool) (k : List Nat) : List Nat := keyed (if r then 271 else 270) k []
def child (n : Nd) (r : Bool) : Nd := ⟨n.d + 1, 2 * n.p + (if r then 1 else 0), ck r n.k⟩
theorem ck_dg (r : Bool) (k : List Nat) : Dg (ck r k) := ⟨dig_len _ _, dig_lt _ _⟩
theorem keyed_call {D : Int} (dom : BitVec 64) (hD : D = wi dom) (k : List Nat) (hk : Dg k) (w : World) :
    Calls Try.prog 67 #[.int .u64 D, dval k, .slice none 0 0] w fun e w' => e = .returned (dval (keyed dom k [])) ∧ w.grownBy w' none := by
  subst hD
  exact keyed_walk dom k [] hk.1 hk.2 (by simp) (by simp) _ w (Sl.nil w 1)
theorem rkeyed_call {D : Int} (dom : BitVec 64) (hD : D = wi dom) (k : List Nat) (hk : Dg k) (w : World) :
    Calls Try.prog 76 #[.int .u64 D, dval k, .slice none 0 0] w fun e w' => e = .returned (dval (keyed dom k [])) ∧ w.grownBy w' none := by
  subst hD
  exact rkeyed_walk dom k [] hk.1 hk.2 (by simp) (by simp) _ w (Sl.nil w 1)
theorem wi_270 : wi (270 : BitVec 64) = 270 ∧ wi (271 : BitVec 64) = 271 := by decide
theorem bN (d p : Int) (w : World) : (Instr.build 91 #[(0, .int .i64 d), (1, .int .i64 p)]).run Try.prog w = .ok (nval ⟨d, p, zs 32⟩) w := by kernel_rfl
theorem tyI (x : Int) : TY Try.prog 2 [.int .i64 x] (.int .i64 x) := TY.one' Try.underlying2 rfl (by kernel_rfl) rfl
theorem ncells_len (n : Nd) (h : n.k.length = 32) : (ncells n).length = 34 := by unfold ncells; rw [List.length_cons, List.length_cons, bv_length, h]
theorem bv_lt32 (l : List Nat) (h : l.length = 32) : (bv l).length = 32 := by rw [bv_length, h]
/-- two blocks of nodes were made, the first one given -/
theorem pauseN2 {K : World → Prop} {w : World} {C : List Value} (h : ∀ W : World, Hid (w.grownBy W none) → Hid (W.heap[w.heap.size]? = some (.cells C.toArray 91 (0, 0))) → Hid (W.heap[w.heap.size + 1]? = some (.cells (ncells ⟨0, 0, zs 32⟩).toArray 91 (0, 0))) → Hid (W.heap.size = w.heap.size + 2) → K W) :
    K ((w.alloc (.cells C.toArray 91)).alloc (.cells #[.int .i64 0, .int .i64 0, .int .u8 0, .int .u8 0, .int .u8 0, .int .u8 0, .int .u8 0, .int .u8 0, .int .u8 0, .int .u8 0, .int .u8 0, .int .u8 0, .int .u8 0, .int .u8 0, .int .u8 0, .int .u8 0, .int .u8 0, .int .u8 0, .int .u8 0, .int .u8 0, .int .u8 0, .int .u8 0, .int .u8 0, .int .u8 0, .int .u8 0, .int .u8 0, .int .u8 0, .int .u8 0, .int .u8 0, .int .u8 0, .int .u8 0, .int .u8 0, .int .u8 0, .int .u8 0] 91)) :=
  h _ (hid (grown_trans (World.grownBy_alloc _ _ _) (World.grownBy_alloc _ _ _))) (hid (by rw [heap_past (by simp), heap_at rfl])) (hid (by rw [heap_at (by simp)]; rfl)) (hid (by simp))
theorem key_range {w : World} {b : Nat} {n : Nd} {t : TypeId} {fr : Nat × Nat} (h : w.heap[b]? = some (.cells (ncells n).toArray t fr)) : w.rangeAt b 2 (bv n.k) :=
  range_row h 2 _ (by show ((bv n.k)).take (bv n.k).length = bv n.k; exact List.take_length)
theorem key_put (a b : Int) (k : List Nat) (h : k.length = 32) : (ncells ⟨a, b, zs 32⟩).take 2 ++ (bv k ++ (ncells ⟨a, b, zs 32⟩).drop (2 + (bv k).length)) = ncells ⟨a, b, k⟩ := by
  rw [bv_lt32 k h]
  have e : (ncells ⟨a, b, zs 32⟩).drop (2 + 32) = [] := List.drop_of_length_le (by rw [ncells_len _ (by simp [zs])]; exact Nat.le_refl _)
  rw [e, List.append_nil]
  rfl
set_option maxRecDepth 100000 in
set_option maxHeartbeats 4000000 in
theorem child_walk (n : Nd) (r : Bool) (hk : Dg n.k) (hd : 0 ≤ n.d ∧ n.d ≤ 34) (hp : 0 ≤ n.p ∧ n.p ≤ 17179869184) (w : World) :
    Calls Try.prog 56 #[nval n, .bool r] w fun e w' => e = .returned (nval (child n r)) ∧ w.grownBy w' none := by
  obtain ⟨d, p, k⟩ := n
  obtain ⟨i1, i2⟩ := hd
  obtain ⟨i3, i4⟩ := hp
  simp only at i1 i2 i3 i4 hk
  have HK := hid hk
  obtain ⟨C, hC⟩ : ∃ C, C = ncells ⟨d, p, k⟩ := ⟨_, rfl⟩
  unfold nval
  rw [← hC]
  have HC := hid hC
  clear hk hC
  go_enter Try.func56, Try.ntmps56
  refine wp_seq_k fun K1 k1 => ?_
  have HK1 := hid k1
  clear k1
  go_wp2
  refine HK1.out _ _ ?_
  clear HK1
  refine pauseN2 fun W GW B0 B1 HSZ => ?_
  rw [HC.out] at B0
  have c0 : W.cell? ⟨w.heap.size, 0, none⟩ = some (.int .i64 d) := by rw [cell_of_row _ _ _ _ _ _ B0.out]; rfl
  have c1 : W.cell? ⟨w.heap.size, 1, none⟩ = some (.int .i64 p) := by rw [cell_of_row _ _ _ _ _ _ B0.out]; rfl
  have y0 := block_lt_of_cell c0
  have TN := hid (tyN ⟨d + 1, 2 * p, zs 32⟩ (by simp [zs]))
  have BN := hid (bN (d + 1) (2 * p))
  obtain ⟨V0, hV0⟩ : ∃ V, V = nval ⟨d + 1, 2 * p, zs 32⟩ := ⟨_, rfl⟩
  rw [← hV0] at TN BN
  clear hV0
  refine wp_seq_k fun K2 k2 => ?_
  have HK2 := hid k2
  clear k2
  go_wp2_with (first
    | (refine wpList_buildR rfl 91 _ rfl #[(0, .int .i64 (d + 1)), (1, .int .i64 (2 * p))] (by simp only [List.map_toArray, List.map_cons, List.map_nil, Act.eval]; rfl) (BN.out _) ?_)
    | (refine wpList_storeTYg rfl 91 (.tmp 5) (.tmp 13) rfl rfl rfl TN.out (heap_at rfl) rfl ?_; intro W2 g2 h2; have G2 := hid (grown_newR (World.grownBy_alloc W _ none) g2 (Nat.le_refl _)); have H2 := hid h2; clear g2 h2)
    | fail)
  refine HK2.out _ _ ?_
  clear HK2 c0 c1 y0 TN BN
  replace B0 := hid (row_of G2.out B0.out (by simp))
  replace B1 := hid (row_of G2.out B1.out (by simp))
  replace GW := hid (grown_trans GW.out G2.out)
  clear G2
  cases r with
  | false =>
    have H3 := H2
    have G3 := GW
    clear H2 GW
    go_wp2_with (first
      | (refine wpList_loadAt rfl 29 (.tmp 20) rfl rfl (tyD k HK.out.1) (key_range B0.out) ?_)
      | fail)
    refine (keyed_call 270 wi_270.1.symm k HK.out _).mono ?_
    rintro e W4 ⟨rfl, g4⟩
    have H4 := hid (row_of g4 H3.out (by simp))
    have B4 := hid (row_of g4 B1.out (by simp))
    have G4 := hid (grown_trans G3.out g4)
    have KL := hid (ck_dg false k)
    clear g4 H3 G3 B0 B1
    go_wp2_with (first
      | (refine wpList_storeAt rfl 29 (.tmp 23) (.tmp 22) rfl rfl rfl (tyD (ck false k) KL.out.1) H4.out (by rw [bv_lt32 _ KL.out.1, ncells_len _ (by simp [zs])]; exact Nat.le_refl _) ?_; intro W5 g5 h5; rw [key_put _ _ _ KL.out.1] at h5; have H5 := hid h5; have B5 := hid (row_of g5 B4.out (by simp [HSZ.out])); have G5 := hid (grown_newR G4.out g5 (by have := HSZ.out; omega)); clear g5 h5)
      | (refine wpList_loadTY rfl 91 (.tmp 5) rfl rfl (tyN _ KL.out.1) H5.out ?_)
      | (refine wpList_storeTYg rfl 91 (.tmp 4) (.tmp 24) rfl rfl rfl (tyN ⟨d + 1, 2 * p, ck false k⟩ KL.out.1) B5.out (by rw [ncells_len _ KL.out.1]; rfl) ?_; intro W6 g6 h6; have G6 := hid g6; have H6 := hid h6; clear g6 h6)
      | fail)
    exact ret_cell (b := w.heap.size + 1) rfl rfl (tyN ⟨d + 1, 2 * p, ck false k⟩ KL.out.1) H6.out rfl ⟨by unfold child; simp; rfl, grown_newR G5.out G6.out (Nat.le_succ _)⟩
  | true =>
    have c3 : W2.cell? ⟨W.heap.size, 1, none⟩ = some (.int .i64 (2 * p)) := by rw [cell_of_row _ _ _ _ _ _ H2.out]; rfl
    have y3 := block_lt_of_cell c3
    refine wp_seq_k fun K3 k3 => ?_
    have HK3 := hid k3
    clear k3
    go_wp2
    refine HK3.out _ _ ?_
    clear HK3
    refine wp_seq_k fun K4 k4 => ?_
    have HK4 := hid k4
    clear k4
    go_wp2_with (first
      | (refine wpList_storeAt rfl 2 (.tmp 18) (.tmp 17) rfl rfl rfl (tyI (2 * p + 1)) H2.out (by rw [ncells_len _ (by simp [zs])]; simp) ?_; intro W3 g3 h3; have H3 := hid (show W3.heap[W.heap.size]? = some (.cells (ncells ⟨d + 1, 2 * p + 1, zs 32⟩).toArray 91 (0, 0)) from h3); have G3 := hid (grown_newR GW.out g3 (by have := HSZ.out; omega)); have B03 := hid (row_of g3 B0.out (by simp [HSZ.out])); have B13 := hid (row_of g3 B1.out (by simp [HSZ.out])); clear g3 h3)
      | fail)
    refine HK4.out _ _ ?_
    clear HK4 c3 y3 H2 GW B0 B1
    have B0 := B03
    have B1 := B13
    clear B03 B13
    go_wp2_with (first
      | (refine wpList_loadAt rfl 29 (.tmp 20) rfl rfl (tyD k HK.out.1) (key_range B0.out) ?_)
      | fail)
    refine (keyed_call 271 wi_270.2.symm k HK.out _).mono ?_
    rintro e W4 ⟨rfl, g4⟩
    have H4 := hid (row_of g4 H3.out (by simp))
    have B4 := hid (row_of g4 B1.out (by simp))
    have G4 := hid (grown_trans G3.out g4)
    have KL := hid (ck_dg true k)
    clear g4 H3 G3 B0 B1
    go_wp2_with (first
      | (refine wpList_storeAt rfl 29 (.tmp 23) (.tmp 22) rfl rfl rfl (tyD (ck true k) KL.out.1) H4.out (by rw [bv_lt32 _ KL.out.1, ncells_len _ (by simp [zs])]; exact Nat.le_refl _) ?_; intro W5 g5 h5; rw [key_put _ _ _ KL.out.1] at h5; have H5 := hid h5; have B5 := hid (row_of g5 B4.out (by simp [HSZ.out])); have G5 := hid (grown_newR G4.out g5 (by have := HSZ.out; omega)); clear g5 h5)
      | (refine wpList_loadTY rfl 91 (.tmp 5) rfl rfl (tyN _ KL.out.1) H5.out ?_)
      | (refine wpList_storeTYg rfl 91 (.tmp 4) (.tmp 24) rfl rfl rfl (tyN ⟨d + 1, 2 * p + 1, ck true k⟩ KL.out.1) B5.out (by rw [ncells_len _ KL.out.1]; rfl) ?_; intro W6 g6 h6; have G6 := hid g6; have H6 := hid h6; clear g6 h6)
      | fail)
    exact ret_cell (b := w.heap.size + 1) rfl rfl (tyN ⟨d + 1, 2 * p + 1, ck true k⟩ KL.out.1) H6.out rfl ⟨rfl, grown_newR G5.out G6.out (Nat.le_succ _)⟩
end Go.Proofs.Yteakoleceoclkaa
