/- Digests: squeeze of the program and of the reference. -/
import Derived.Test.YteakoleceoclkaaD8
namespace Go.Proofs.Yteakoleceoclkaa
open Go.RowKit
set_option linter.unusedSimpArgs false
set_option linter.unusedVariables false

theorem sq_put (s : St) (n k : Nat) (hk : k < n) : (bv (sq s k ++ zs (n - k))).take k ++ ([Value.int .u8 (wb (it (k / 8) s).a (k % 8) : Nat)] ++ (bv (sq s k ++ zs (n - k))).drop (k + 1)) = bv (sq s (k + 1) ++ zs (n - (k + 1))) := by
  have e0 : (bv (sq s k)).length = k := by rw [bv_length, sq_len]
  rw [bv_append, List.take_left' e0, List.drop_append, List.drop_of_length_le (by rw [e0]; omega), e0, sq_succ, bv_append, bv_append]
  have e1 : (bv (zs (n - k))).drop (k + 1 - k) = bv (zs (n - (k + 1))) := by
    unfold bv zs
    rw [← List.map_drop, List.drop_replicate]
    congr 2
    omega
  rw [e1]
  simp [bv]
theorem it_next (s : St) (k : Nat) (hk : 0 < k) (h8 : k % 8 = 0) : perm (it ((k - 1) / 8) s) = it (k / 8) s := by
  rw [← it_succ]
  congr 1
  omega
theorem it_same (s : St) (k : Nat) (h : k = 0 ∨ ¬ k % 8 = 0) : it ((k - 1) / 8) s = it (k / 8) s := by
  congr 1
  omega
theorem wb_mod (x : BitVec 64) (r : Nat) : wi x / 2 ^ (8 * r) % 256 = (wb x r : Nat) := by
  rw [← wb_eq, IntKind.wrap_u8]
theorem wb_zero (x : BitVec 64) (r : Nat) (h : r = 0) : wi x % 256 = (wb x r : Nat) := by
  subst h
  have := wb_mod x 0
  simpa using this
/-- the rows of squeeze -/
structure SqR (w wr : World) (T : TypeId) (D R n : Nat) (C : List Nat) (S : St) : Prop where
  g : w.grownBy wr (some D)
  ne : D < R ∧ w.heap.size ≤ R
  d : wr.heap[D]? = some (.cells (bv C).toArray T (0, 0))
  l : C.length = n
  r : wr.heap[R]? = some (.cells #[.int .u64 (wi S.a), .int .u64 (wi S.b), .int .u64 (wi S.c), .int .u64 (wi S.d), .int .u64 (wi S.e)] 126 (0, 0))
section
variable {w wr w' : World} {T : TypeId} {D R n : Nat} {C : List Nat} {S S' : St}
theorem SqR.call (h : SqR w wr T D R n C S) (g : wr.grownBy w' none) : SqR w w' T D R n C S :=
  ⟨grown_trans h.g (grown_none g), h.ne, row_of g h.d (by simp), h.l, row_of g h.r (by simp)⟩
theorem grown_far {a b c : World} {D R : Nat} (h : a.grownBy b (some D)) (k : b.grownBy c (some R)) (hR : a.heap.size ≤ R) : a.grownBy c (some D) :=
  ⟨k.os.trans h.os, k.tape.trans h.tape, k.output.trans h.output, Nat.le_trans h.size k.size, fun i hi hne =>
    (k.block i (Nat.lt_of_lt_of_le hi h.size) (by simp; omega)).trans (h.block i hi hne)⟩
theorem SqR.put (h : SqR w wr T D R n C S) (g : wr.grownBy w' (some R)) (hr : w'.heap[R]? = some (.cells #[.int .u64 (wi S'.a), .int .u64 (wi S'.b), .int .u64 (wi S'.c), .int .u64 (wi S'.d), .int .u64 (wi S'.e)] 126 (0, 0))) : SqR w w' T D R n C S' :=
  ⟨grown_far h.g g h.ne.2, h.ne, row_of g h.d (by have := h.ne; simp; omega), h.l, hr⟩
theorem SqR.byte {s : St} {k : Nat} (h : SqR w wr T D R n (sq s k ++ zs (n - k)) S) (hk : k < n) (g : wr.grownBy w' (some D))
    (hd : w'.heap[D]? = some (.cells ((bv (sq s k ++ zs (n - k))).take k ++ ([Value.int .u8 (wb (it (k / 8) s).a (k % 8) : Nat)] ++ (bv (sq s k ++ zs (n - k))).drop (k + 1))).toArray T (0, 0))) : SqR w w' T D R n (sq s (k + 1) ++ zs (n - (k + 1))) S := by
  rw [sq_put s n k hk] at hd
  exact ⟨grown_trans h.g g, h.ne, hd, by rw [List.length_append, sq_len]; unfold zs; simp; omega, row_of g h.r (by have := h.ne; simp; omega)⟩
end
set_option maxRecDepth 100000 in
set_option maxHeartbeats 4000000 in
theorem squeeze_walk (s : St) (n : Nat) (hn : n ≤ 1099511627776) (D : Nat) (T : TypeId) (w : World) (hD : w.heap[D]? = some (.cells (bv (zs n)).toArray T (0, 0))) :
    Calls Try.prog 103 #[sval s, .slice (some ⟨D, 0, none⟩) n n] w fun e w' => e = .returned (.tuple #[]) ∧ w.grownBy w' (some D) ∧ w'.heap[D]? = some (.cells (bv (sq s n)).toArray T (0, 0)) := by
  have hD0 : D < w.heap.size := by
    have := Array.getElem?_eq_some_iff.1 hD
    exact this.1
  obtain ⟨R, hR⟩ : ∃ x, x = w.heap.size := ⟨_, rfl⟩
  have ga := World.grownBy_alloc w (.cells #[.int .u64 (wi s.a), .int .u64 (wi s.b), .int .u64 (wi s.c), .int .u64 (wi s.d), .int .u64 (wi s.e)] 126) none
  have HS := hid (show SqR w (w.alloc (.cells #[.int .u64 (wi s.a), .int .u64 (wi s.b), .int .u64 (wi s.c), .int .u64 (wi s.d), .int .u64 (wi s.e)] 126)) T D R n (sq s 0 ++ zs (n - 0)) (it ((0 - 1) / 8) s) from ⟨grown_none ga, by omega, row_of ga hD (by simp), by unfold sq zs; simp, heap_at hR⟩)
  have HR := hid hR
  clear ga hR hD hD0
  unfold sval
  go_enter Try.func103, Try.ntmps103
  go_wp2
  rw [← HR.out]
  go_loopw [7] (fun i wr => ∃ k : Nat, k ≤ n ∧ i = .int .i64 k ∧ Hid (SqR w wr T D R n (sq s k ++ zs (n - k)) (it ((k - 1) / 8) s))) (fun i _ => (n - intOf i).toNat)
  case atStart => exact ⟨0, by omega, rfl, HS⟩
  case round =>
    clear HS HR
    obtain ⟨k, hk, rfl, HS⟩ := hrel
    by_cases hlt : k < n
    · have i0 : (0 : Int) ≤ (k : Int) := by omega
      have i1 : (k : Int) < (n : Int) := by omega
      have WB := hid (wb_mod (it (k / 8) s).a (k % 8))
      have e2 : (8 * ((k : Int) % 8)).toNat = 8 * (k % 8) := by omega
      have e3 : (0 : Int) ≤ 8 * ((k : Int) % 8) := by omega
      have e4 : 8 * ((k : Int) % 8) < 64 := by omega
      by_cases hk0 : 0 < k
      · have t0 : decide (0 < k) = true := decide_eq_true hk0
        by_cases h8 : k % 8 = 0
        · have t1 : ((k : Int) % 8 == 0) = true := by simp; omega
          have HE := hid (it_next s k hk0 h8)
          clear e2 e3 e4
          go_wp2_with (first
            | (refine wpList_loadTY rfl 126 (.tmp 2) rfl rfl (tySt (it ((k - 1) / 8) s)) HS.out.r ?_)
            | fail)
          refine (perm_walk _ _).mono ?_
          rintro e w1 ⟨rfl, g1⟩
          rw [HE.out]
          have HS1 := hid (HS.out.call g1)
          clear g1 HS
          have e2 : (8 * ((k : Int) % 8)).toNat = 8 * (k % 8) := by omega
          have e3 : (0 : Int) ≤ 8 * ((k : Int) % 8) := by omega
          have e4 : 8 * ((k : Int) % 8) < 64 := by omega
          go_wp2_with (first
            | (refine wpList_storeTYg rfl 126 (.tmp 2) (.tmp 18) rfl rfl rfl (tySt (it (k / 8) s)) HS1.out.r rfl ?_; intro w2 g2 h2; have HS := hid (HS1.out.put g2 h2); clear g2 h2; have c0 : w2.cell? ⟨R, 0, none⟩ = some (.int .u64 (wi (it (k / 8) s).a)) := (by rw [cell_of_row _ _ _ _ _ _ HS.out.r]; rfl))
            | (refine wpList_storeAt rfl 5 (.tmp 28) (.tmp 27) rfl rfl rfl (tyB _) HS.out.d (by rw [bv_length, HS.out.l]; simp; omega) ?_; intro w3 g3 h3; have G3 := hid g3; have H3 := hid h3; clear g3 h3)
            | fail)
          go_roundw
          case rel => exact ⟨k + 1, by omega, by go_num, hid (HS.out.byte hlt G3.out (by have := H3.out; rw [wb_zero _ _ h8] at this; exact this))⟩
          case measure => simp [intOf]; omega
        · have t1 : ((k : Int) % 8 == 0) = false := by simp; omega
          have HE := hid (it_same s k (.inr h8))
          rw [HE.out] at HS
          have c0 : wr.cell? ⟨R, 0, none⟩ = some (.int .u64 (wi (it (k / 8) s).a)) := by rw [cell_of_row _ _ _ _ _ _ HS.out.r]; rfl
          go_wp2_with (first
            | (refine wpList_storeAt rfl 5 (.tmp 28) (.tmp 27) rfl rfl rfl (tyB _) HS.out.d (by rw [bv_length, HS.out.l]; simp; omega) ?_; intro w3 g3 h3; have G3 := hid g3; have H3 := hid h3; clear g3 h3)
            | fail)
          go_roundw
          case rel => exact ⟨k + 1, by omega, by go_num, hid (HS.out.byte hlt G3.out (by have := H3.out; rw [WB.out] at this; exact this))⟩
          case measure => simp [intOf]; omega
      · obtain rfl : k = 0 := by omega
        have HE := hid (it_same s 0 (.inl rfl))
        rw [HE.out] at HS
        have c0 : wr.cell? ⟨R, 0, none⟩ = some (.int .u64 (wi (it (0 / 8) s).a)) := by rw [cell_of_row _ _ _ _ _ _ HS.out.r]; rfl
        go_wp2_with (first
          | (refine wpList_storeAt rfl 5 (.tmp 28) (.tmp 27) rfl rfl rfl (tyB _) HS.out.d (by rw [bv_length, HS.out.l]; simp; omega) ?_; intro w3 g3 h3; have G3 := hid g3; have H3 := hid h3; clear g3 h3)
          | fail)
        go_roundw
        case rel => exact ⟨0 + 1, by omega, rfl, hid (HS.out.byte hlt G3.out (by have := H3.out; rw [wb_zero (it 0 s).a (0 % 8) rfl] at this; exact this))⟩
        case measure => simp [intOf]; omega
    · obtain rfl : k = n := by omega
      go_wp2
      go_end0
      exact ⟨rfl, HS.out.g, by have := HS.out.d; rw [Nat.sub_self] at this; simpa [zs] using this⟩
end Go.Proofs.Yteakoleceoclkaa
