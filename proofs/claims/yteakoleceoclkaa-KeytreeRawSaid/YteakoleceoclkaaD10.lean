/- Digests: squeeze of the reference. -/
import Derived.Test.YteakoleceoclkaaD9
namespace Go.Proofs.Yteakoleceoclkaa
open Go.RowKit
set_option linter.unusedSimpArgs false
set_option linter.unusedVariables false

theorem sq_next (s : St) (m k : Nat) (hk : k < 8) : bv (sq s (8 * m + k)) ++ [.int .u8 (wb (it m s).a k : Nat)] = bv (sq s (8 * m + (k + 1))) := by
  rw [← Nat.add_assoc, sq_succ, show (8 * m + k) / 8 = m by omega, show (8 * m + k) % 8 = k by omega]
  simp [bv]
theorem sq_take (s : St) {n N : Nat} (h : n ≤ N) : (sq s N).take n = sq s n := by
  unfold sq
  rw [← List.map_take, List.take_range, Nat.min_eq_left h]
theorem Fresh.put {w wr w' : World} {v : Value} {R : Nat} (h : Fresh w wr v) (g : wr.grownBy w' (some R)) (hR : w.heap.size ≤ R) : Fresh w w' v := ⟨grown_newR h.1 g hR, h.2⟩
theorem Fresh.kn {w wr w' : World} {v : Value} (h : Fresh w wr v) (g : wr.grownBy w' none) : Fresh w w' v := ⟨grown_trans h.1 g, h.2⟩
/-- the rows of the reference's squeeze -/
structure RqR (w wr : World) (R n : Nat) (v : Value) (C : List Nat) (S : St) : Prop where
  f : Fresh w wr v
  lo : w.heap.size ≤ R
  o : Own wr 5 1 v n (bv C)
  r : wr.heap[R]? = some (.cells #[.int .u64 (wi S.a), .int .u64 (wi S.b), .int .u64 (wi S.c), .int .u64 (wi S.d), .int .u64 (wi S.e)] 126 (0, 0))
section
variable {w wr w' : World} {R n : Nat} {v : Value} {C : List Nat} {S S' : St}
theorem RqR.call (h : RqR w wr R n v C S) (g : wr.grownBy w' none) : RqR w w' R n v C S := ⟨h.f.kn g, h.lo, Own.kn h.o g, row_of g h.r (by simp)⟩
theorem RqR.put (h : RqR w wr R n v C S) (g : wr.grownBy w' (some R)) (hr : w'.heap[R]? = some (.cells #[.int .u64 (wi S'.a), .int .u64 (wi S'.b), .int .u64 (wi S'.c), .int .u64 (wi S'.d), .int .u64 (wi S'.e)] 126 (0, 0))) : RqR w w' R n v C S' :=
  ⟨h.f.put g h.lo, h.lo, Own.past h.o g h.r (by decide), hr⟩
theorem RqR.app {v' : Value} {n' : Nat} {C' : List Nat} (h : RqR w wr R n v C S) (st : Step wr v w' v') (o : Own w' 5 1 v' n' (bv C')) : RqR w w' R n' v' C' S :=
  ⟨h.f.trans st, h.lo, o, row_of st.1 h.r (fun e => Own.ne h.o h.r (by decide) e.symm)⟩
end
set_option maxRecDepth 100000 in
set_option maxHeartbeats 4000000 in
theorem rsqueeze_walk (s : St) (n : Nat) (hn : n ≤ 1000000000000) (w : World) :
    Calls Try.prog 107 #[sval s, .int .i64 n] w fun e w' => ∃ v, e = .returned v ∧ Sl w' 1 v n (bv (sq s n)) ∧ w.grownBy w' none ∧ ∀ b, v.ownBlock = some b → w.heap.size ≤ b := by
  obtain ⟨R, hR⟩ : ∃ x, x = w.heap.size := ⟨_, rfl⟩
  have ga := World.grownBy_alloc w (.cells #[.int .u64 (wi s.a), .int .u64 (wi s.b), .int .u64 (wi s.c), .int .u64 (wi s.d), .int .u64 (wi s.e)] 126) none
  have HS := hid (show RqR w ((w.alloc (.cells #[.int .u64 (wi s.a), .int .u64 (wi s.b), .int .u64 (wi s.c), .int .u64 (wi s.d), .int .u64 (wi s.e)] 126)).alloc (.cells #[] 5)) R (8 * 0) (.slice (some ⟨R + 1, 0, none⟩) 0 0) (sq s (8 * 0)) (it 0 s) from
    ⟨Step.grown ga (Fresh.litH (by simp [hR])), by omega, Own.emptyH (by simp [hR]), row_of (World.grownBy_alloc _ _ none) (heap_at hR) (by simp)⟩)
  have HR := hid hR
  clear ga hR
  unfold sval
  go_enter Try.func107, Try.ntmps107
  go_wp2
  rw [← HR.out]
  go_loopw [5] (fun v wr => ∃ m : Nat, 8 * m < n + 8 ∧ Hid (RqR w wr R (8 * m) v (sq s (8 * m)) (it m s))) (fun v _ => n + 8 - lenOf v)
  case atStart => exact ⟨0, by omega, HS⟩
  case round =>
    clear HS HR
    obtain ⟨m, hm, HS⟩ := hrel
    obtain ⟨_, ad, cp, rfl, hcp1, hcp2, _⟩ := Sl.of_own HS.out.o
    by_cases hlt : 8 * m < n
    · have t0 : decide (8 * m < n) = true := decide_eq_true hlt
      have t0' : decide (8 * (m : Int) < (n : Int)) = true := by simp; omega
      go_wp2
      go_loopw [5, 6] (fun v i wq => ∃ k : Nat, k ≤ 8 ∧ i = .int .i64 k ∧ Hid (RqR w wq R (8 * m + k) v (sq s (8 * m + k)) (it m s))) (fun _ i _ => (8 - intOf i).toNat)
      case atStart => exact ⟨0, by omega, rfl, HS⟩
      case round =>
        clear HS
        obtain ⟨k, hk, rfl, HS⟩ := hrel
        obtain ⟨_, ad2, cp2, rfl, hcp3, hcp4, _⟩ := Sl.of_own HS.out.o
        by_cases hl8 : k < 8
        · have i0 : (0 : Int) ≤ (k : Int) := by omega
          have i1 : (k : Int) < 8 := by omega
          have c0 : wr.cell? ⟨R, 0, none⟩ = some (.int .u64 (wi (it m s).a)) := by rw [cell_of_row _ _ _ _ _ _ HS.out.r]; rfl
          have e2 : (8 * (k : Int)).toNat = 8 * k := by omega
          have e3 : (0 : Int) ≤ 8 * (k : Int) := by omega
          have e4 : 8 * (k : Int) < 64 := by omega
          have WB := hid (wb_mod (it m s).a k)
          have WB0 := hid (fun h : k = 0 => wb_zero (it m s).a k h)
          go_wp2_with (first
            | (refine wpList_pushH bytesT rfl (.tmp 16) (.tmp 23) rfl (.slice ad2 (8 * m + k) cp2) (8 * m + k) (bv (sq s (8 * m + k))) rfl HS.out.o _ 1 _ rfl rfl rfl rfl (by omega) ?_; intro v3 w3 o3 s3; have O3 := hid o3; have S3 := hid s3; clear o3 s3)
            | fail)
          rw [WB.out, sq_next s m k hl8] at O3
          go_roundw
          case rel => exact ⟨k + 1, by omega, by go_num, hid (HS.out.app S3.out O3.out)⟩
          case measure => simp [intOf]; omega
        · obtain rfl : k = 8 := by omega
          go_wp2_with (first
            | (refine wpList_loadTY rfl 126 (.tmp 2) rfl rfl (tySt (it m s)) HS.out.r ?_)
            | fail)
          refine (rperm_walk _ _).mono ?_
          rintro e w1 ⟨rfl, g1⟩
          rw [← it_succ]
          have HS1 := hid (HS.out.call g1)
          clear g1
          go_wp2_with (first
            | (refine wpList_storeTYg rfl 126 (.tmp 2) (.tmp 26) rfl rfl rfl (tySt (it (m + 1) s)) HS1.out.r rfl ?_; intro w2 g2 h2; have HS2 := hid (HS1.out.put g2 h2); clear g2 h2)
            | fail)
          go_frame
          go_roundw
          case rel => exact ⟨m + 1, by omega, HS2⟩
          case measure => simp [lenOf]; omega
    · have t0 : decide (8 * m < n) = false := decide_eq_false hlt
      have t0' : decide (8 * (m : Int) < (n : Int)) = false := by simp; omega
      obtain ⟨ao8, cp8, r8, s8, q8⟩ := run_slice_sl Try.underlying108 bytes1 (Sl.of_own HS.out.o) 0 n none (some (.int .i64 n)) (.inr ⟨rfl, rfl⟩) (.inl rfl) (by omega) (by omega)
      rw [Nat.zero_mul, Nat.mul_one, List.drop_zero, Nat.sub_zero, show (bv (sq s (8 * m))).take n = bv (sq s n) by unfold bv; rw [← List.map_take, sq_take s (by omega)]] at s8
      rw [Nat.sub_zero] at r8
      have S8 := hid s8
      have R8 := hid r8
      have Q8 := hid q8
      clear s8 r8 q8
      go_wp2_with (first
        | (refine wpList_sliceR rfl 108 (.tmp 27) none (some (.tmp 28)) rfl _ rfl none (some (.int .i64 n)) rfl rfl (R8.out _) ?_)
        | fail)
      go_ret
      exact ⟨_, rfl, S8.out, HS.out.f.1, fun b hb => by have := HS.out.f.2 b (Q8.out b hb); simpa [Value.ownBlock] using this⟩
end Go.Proofs.Yteakoleceoclkaa
