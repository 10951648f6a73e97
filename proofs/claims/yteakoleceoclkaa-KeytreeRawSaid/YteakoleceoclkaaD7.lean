/- Digests: absorb of the program. -/
import Derived.Test.YteakoleceoclkaaD6
namespace Go.Proofs.Yteakoleceoclkaa
open Go.RowKit
set_option linter.unusedSimpArgs false
set_option linter.unusedVariables false

def lenOf (v : Value) : Nat := match v with | .slice _ n _ => n | _ => 0
theorem perm_call {A B C D E : Int} (s : St) (hA : A = wi s.a) (hB : B = wi s.b) (hC : C = wi s.c) (hD : D = wi s.d) (hE : E = wi s.e) (w : World) : Calls Try.prog 114 #[.agg #[.int .u64 A, .int .u64 B, .int .u64 C, .int .u64 D, .int .u64 E]] w fun e w' => e = .returned (sval (perm s)) ∧ w.grownBy w' none := by
  subst hA hB hC hD hE
  exact perm_walk s w
theorem rperm_call {A B C D E : Int} (s : St) (hA : A = wi s.a) (hB : B = wi s.b) (hC : C = wi s.c) (hD : D = wi s.d) (hE : E = wi s.e) (w : World) : Calls Try.prog 117 #[.agg #[.int .u64 A, .int .u64 B, .int .u64 C, .int .u64 D, .int .u64 E]] w fun e w' => e = .returned (sval (perm s)) ∧ w.grownBy w' none := by
  subst hA hB hC hD hE
  exact rperm_walk s w
theorem bSt (a b c d e : Int) (w : World) : (Instr.build 126 #[(0, .int .u64 a), (1, .int .u64 b), (2, .int .u64 c), (3, .int .u64 d), (4, .int .u64 e)]).run Try.prog w = .ok (.agg #[.int .u64 a, .int .u64 b, .int .u64 c, .int .u64 d, .int .u64 e]) w := by kernel_rfl
theorem tySt5 (a b c d e : Int) : TY Try.prog 126 [.int .u64 a, .int .u64 b, .int .u64 c, .int .u64 d, .int .u64 e] (.agg #[.int .u64 a, .int .u64 b, .int .u64 c, .int .u64 d, .int .u64 e]) := TY.agg Try.underlying126 rfl (by kernel_rfl) (by simp [Value.oneCell'])
theorem small_wi : wi (1 : BitVec 64) = 1 ∧ wi (2 : BitVec 64) = 2 ∧ wi (3 : BitVec 64) = 3 ∧ wi (4 : BitVec 64) = 4 := by decide
theorem bytesT : ET Try.prog 108 5 (.int .u8 0) 1 1 := ⟨Try.underlying108, info_parts (by kernel_rfl), rfl, by decide, by decide⟩
theorem bytes1 : (Try.prog.info? 5).map (·.size) = some 1 := by kernel_rfl
theorem tyB (x : Int) : TY Try.prog 5 [.int .u8 x] (.int .u8 x) := TY.one' Try.underlying5 rfl (by kernel_rfl) rfl
theorem sl_blk {w : World} {B n : Nat} {xs : List Value} {t : TypeId} {fr : Nat × Nat} (h : w.heap[B]? = some (.cells xs.toArray t fr)) (hn : n = xs.length ∧ n ≤ 1000) : Sl w 1 (.slice (some ⟨B, 0, none⟩) n n) n xs := by
  obtain ⟨rfl, hm⟩ := hn
  refine ⟨by rw [Nat.mul_one], _, _, rfl, Nat.le_refl _, by unfold maxLen; omega, fun h => (by cases h), fun ad had => ?_⟩
  obtain rfl := Option.some.inj had
  refine ⟨rfl, fun j u hu => ?_⟩
  rw [Nat.zero_add, cell_of_row w B j _ t fr h]
  simpa using hu
theorem bv_ones (x : List Nat) : ∀ v ∈ bv x, v.oneCell' = true := by
  intro v hv
  unfold bv at hv
  simp only [List.mem_map] at hv
  obtain ⟨b, _, rfl⟩ := hv
  rfl
theorem word_quiet {l : List Nat} {s : Value} {w : World} (h : Sl w 1 s 8 (bv l)) (hl : l.length = 8) (hb : ∀ x ∈ l, x < 256) (n : Nat) : Calls Try.prog 115 #[s] (w.drewN n) fun e w' => e = .returned (.int .u64 (wi (wd l))) ∧ w' = w.drewN n :=
  word_walk l hl hb s _ (Sl.kept h (grown_drewN _ _) (by cases s.ownBlock <;> simp))
theorem last_row (m : List Nat) (h : m.length < 8) : (bv m ++ (bv (zs 8)).drop m.length).take m.length ++ ([Value.int .u8 1] ++ (bv m ++ (bv (zs 8)).drop m.length).drop (m.length + [Value.int .u8 1].length)) = bv (m ++ 1 :: zs (7 - m.length)) := by
  have e1 : (bv m ++ (bv (zs 8)).drop m.length).take m.length = bv m := by rw [List.take_left' (bv_length m)]
  have e2 : (bv m ++ (bv (zs 8)).drop m.length).drop (m.length + [Value.int .u8 1].length) = bv (zs (7 - m.length)) := by
    rw [List.drop_append, List.drop_of_length_le (by rw [bv_length]; simp), bv_length, List.drop_drop, List.nil_append]
    unfold bv zs
    rw [← List.map_drop, List.drop_replicate]
    congr 2
    simp only [List.length_cons, List.length_nil]
    omega
  rw [e1, e2]
  simp [bv]
/-- the rows of absorb -/
structure AbR (w wr : World) (R0 R1 : Nat) (S : St) : Prop where
  g : w.grownBy wr none
  lo : w.heap.size ≤ R0 ∧ R0 < R1
  z : wr.heap[R0]? = some (.cells #[.int .u64 0, .int .u64 0, .int .u64 0, .int .u64 0, .int .u64 0] 126 (0, 0))
  r : wr.heap[R1]? = some (.cells #[.int .u64 (wi S.a), .int .u64 (wi S.b), .int .u64 (wi S.c), .int .u64 (wi S.d), .int .u64 (wi S.e)] 126 (0, 0))
theorem AbR.call {w wr w' : World} {R0 R1 : Nat} {S : St} (h : AbR w wr R0 R1 S) (g : wr.grownBy w' none) : AbR w w' R0 R1 S :=
  ⟨grown_trans h.g g, h.lo, row_of g h.z (by simp), row_of g h.r (by simp)⟩
theorem AbR.far {w wr w' : World} {R0 R1 k : Nat} {S : St} (h : AbR w wr R0 R1 S) (g : wr.grownBy w' (some k)) (hk : R1 < k) : AbR w w' R0 R1 S :=
  ⟨grown_newR h.g g (by have := h.lo; omega), h.lo, row_of g h.z (by have := h.lo; simp; omega), row_of g h.r (by simp; omega)⟩
theorem AbR.put {w wr w' : World} {R0 R1 : Nat} {S S' : St} (h : AbR w wr R0 R1 S) (g : wr.grownBy w' (some R1)) (hr : w'.heap[R1]? = some (.cells #[.int .u64 (wi S'.a), .int .u64 (wi S'.b), .int .u64 (wi S'.c), .int .u64 (wi S'.d), .int .u64 (wi S'.e)] 126 (0, 0))) : AbR w w' R0 R1 S' :=
  ⟨grown_newR h.g g (by have := h.lo; omega), h.lo, row_of g h.z (by have := h.lo; simp; omega), hr⟩
/-- a word is mixed in -/
theorem AbR.xor {w wr : World} {R0 R1 n : Nat} {S : St} {x : BitVec 64} (h : AbR w wr R0 R1 S) (l : List Nat) (hx : wd l = x) : AbR w ((wr.drewN n).setCell ⟨R1, 0, none⟩ (.int .u64 (bits .xor .u64 (wi S.a) (wi x)))) R0 R1 (xr S l) := by
  subst hx
  have g : wr.grownBy ((wr.drewN n).setCell ⟨R1, 0, none⟩ (.int .u64 (bits .xor .u64 (wi S.a) (wi (wd l))))) (some R1) := grown_trans (grown_none (grown_drewN wr n)) (grown_setCell (wr.drewN n) ⟨R1, 0, none⟩ _)
  refine h.put g ?_
  rw [bits_xor]
  exact row0 (w := wr.drewN n) h.r
set_option maxRecDepth 100000 in
set_option maxHeartbeats 4000000 in
theorem absorb_walk (dom : BitVec 64) (l : List Nat) (hb : ∀ x ∈ l, x < 256) (hl : l.length ≤ 1099511627776) (s : Value) (w : World) (h : Sl w 1 s l.length (bv l)) :
    Calls Try.prog 104 #[.int .u64 (wi dom), s] w fun e w' => e = .returned (sval (absorb dom l)) ∧ w.grownBy w' none := by
  obtain ⟨ao, cap, rfl, hc1, hc2⟩ := Sl.shape h
  have HS := hid h
  have HBt := hid hb
  clear h hb
  obtain ⟨fin, hfin⟩ : ∃ f, f = absorb dom l := ⟨_, rfl⟩
  rw [← hfin]
  have HF := hid hfin
  clear hfin
  obtain ⟨R0, hR0⟩ : ∃ x, x = w.heap.size := ⟨_, rfl⟩
  have g0 := hid (World.grownBy_alloc w (.cells #[.int .u64 0, .int .u64 0, .int .u64 0, .int .u64 0, .int .u64 0] 126) none)
  have b0 := hid (heap_at (w := w) (o := .cells #[.int .u64 0, .int .u64 0, .int .u64 0, .int .u64 0, .int .u64 0] 126) hR0)
  have HR0 := hid hR0
  clear hR0
  go_enter Try.func104, Try.ntmps104
  go_wp2_with (first | (refine wpList_buildR rfl 126 _ rfl #[(0, .int .u64 (wi dom)), (1, .int .u64 1), (2, .int .u64 2), (3, .int .u64 3), (4, .int .u64 4)] (by simp only [List.map_toArray, List.map_cons, List.map_nil, Act.eval]; rfl) (bSt _ _ _ _ _ _) ?_) | fail)
  refine (perm_call ⟨dom, 1, 2, 3, 4⟩ rfl small_wi.1.symm small_wi.2.1.symm small_wi.2.2.1.symm small_wi.2.2.2.symm _).mono ?_
  rintro e w1 ⟨rfl, g1⟩
  have G1 := hid g1
  obtain ⟨R1, hR1⟩ : ∃ x, x = w1.heap.size := ⟨_, rfl⟩
  have HR1 := hid hR1
  have hR01 := hid (show R0 < R1 by have := g1.size; have := HR0.out; simp at *; omega)
  clear g1 hR1
  go_wp2_with (first
    | (refine wpList_storeTYg rfl 126 (.tmp 5) (.tmp 9) rfl rfl rfl (tySt (start dom)) (heap_at rfl) rfl ?_; intro w2 g2 h2; have G2 := hid g2; have H2 := hid h2; clear g2 h2)
    | fail)
  go_frame
  rw [← HR0.out, ← HR1.out]
  have hab : AbR w w2 R0 R1 (start dom) := by
    have k0 := row_of G1.out b0.out (by simp)
    have k1 := row_of (World.grownBy_alloc w1 (.cells #[.int .u64 0, .int .u64 0, .int .u64 0, .int .u64 0, .int .u64 0] 126) none) k0 (by simp)
    have hh := G2.out
    have h2 := H2.out
    rw [← HR1.out] at hh h2
    refine ⟨grown_newR (grown_trans (grown_trans g0.out G1.out) (World.grownBy_alloc w1 _ none)) hh (by have := hR01.out; have := HR0.out; omega), ⟨by have := HR0.out; omega, hR01.out⟩, row_of hh k1 (by have := hR01.out; simp; omega), h2⟩
  have HAB := hid hab
  have HF2 := hid (show ab (start dom) l = fin from HF.out.symm)
  clear hab g0 b0 HR0 HR1 G1 G2 H2 hR01 HF
  go_loopw [1] (fun v wr => ∃ (m : List Nat) (ad : Option Addr) (cp : Nat) (S : St), v = .slice ad m.length cp ∧ Hid (Sl w 1 (.slice ad m.length cp) m.length (bv m)) ∧ Hid (∀ x ∈ m, x < 256) ∧ m.length ≤ 1099511627776 ∧ m.length ≤ cp ∧ cp ≤ 9223372036854775807 ∧ Hid (ab S m = fin) ∧ Hid (AbR w wr R0 R1 S)) (fun v _ => lenOf v)
  case atStart => exact ⟨l, ao, cap, start dom, rfl, HS, HBt, hl, hc1, hc2, HF2, HAB⟩
  case round =>
    obtain ⟨m, ad, cp, S, rfl, HM, HMB, hm, hcp1, hcp2, HAS, HR⟩ := hrel
    by_cases h8 : 8 ≤ m.length
    · have t1 : decide ((8 : Int) ≤ (m.length : Int)) = true := by simp; omega
      obtain ⟨b, off, had, _⟩ := Sl.bytes HM.out (by omega)
      subst had
      have q1 : (8 : Int) ≤ (cp : Int) := by omega
      have q2 : ¬ cp = 0 := by omega
      obtain ⟨ao8, cp8, r8, s8, q8⟩ := run_slice_sl Try.underlying108 bytes1 HM.out 8 m.length (some (.int .i64 8)) none (.inl rfl) (.inr ⟨rfl, rfl⟩) h8 (Nat.le_refl _)
      rw [Nat.mul_one, Nat.mul_one, show ((bv m).drop 8).take (m.length - 8) = bv (m.drop 8) by unfold bv; rw [← List.map_drop, ← List.map_take, List.take_of_length_le (by simp)]] at s8
      have S8 := hid s8
      have R8 := hid r8
      have HX := hid (Sl.kn (Sl.head HM.out h8) HR.out.g)
      have HXB := hid (show ∀ x ∈ m.take 8, x < 256 from fun x hx => HMB.out x (List.mem_of_mem_take hx))
      have HXL := hid (show (m.take 8).length = 8 by rw [List.length_take]; omega)
      have HA2 := hid (show ab (perm (xr S (m.take 8))) (m.drop 8) = fin by rw [← ab_big h8]; exact HAS.out)
      clear r8 s8 q8
      have c0 : wr.cell? ⟨R1, 0, none⟩ = some (.int .u64 (wi S.a)) := by rw [cell_of_row _ _ _ _ _ _ HR.out.r]; rfl
      have f0 : wr.frozen? ⟨R1, 0, none⟩ = false := frozen_of_row _ _ _ _ _ HR.out.r
      have y0 : R1 < wr.heap.size := block_lt_of_cell c0
      go_wp2
      refine wp_region_quiet_tail 6 (by kernel_rfl) (by kernel_rfl) ?_
      simp only [List.take_succ_cons, List.take_zero, List.drop_succ_cons, List.drop_zero]
      repeat (quiet_step (fail))
      quiet_step ((exact Calls.quiet_of_same (word_quiet HX.out HXL.out HXB.out _)))
      repeat (quiet_step (fail))
      refine wpQuiet_nil ?_
      intro _ hwq
      obtain ⟨nq, hwq⟩ := hwq
      subst hwq
      have HX2 := hid (AbR.xor (n := nq) HR.out (m.take 8) rfl)
      go_wp2_with (first
        | (refine wpList_loadTY rfl 126 (.tmp 5) rfl rfl (tySt (xr S (m.take 8))) HX2.out.r ?_)
        | fail)
      refine (perm_walk _ _).mono ?_
      rintro e w3 ⟨rfl, g3⟩
      have HX3 := hid (HX2.out.call g3)
      clear g3
      go_wp2_with (first
        | (refine wpList_storeTYg rfl 126 (.tmp 5) (.tmp 21) rfl rfl rfl (tySt (perm (xr S (m.take 8)))) HX3.out.r rfl ?_; intro w4 g4 h4; have HX4 := hid (HX3.out.put g4 h4); have G4 := hid g4; clear g4 h4)
        | (refine wpList_sliceR rfl 108 (.tmp 22) (some (.const (.int .i64 8))) none rfl _ rfl (some (.int .i64 8)) none rfl rfl (R8.out _) ?_)
        | fail)
      go_roundw
      case rel =>
        obtain ⟨_, _, hv, z1, z2⟩ := Sl.shape S8.out
        simp only [Value.slice.injEq] at hv
        obtain ⟨rfl, _, rfl⟩ := hv
        have hd : (m.drop 8).length = m.length - 8 := List.length_drop
        exact ⟨m.drop 8, ao8, cp8, perm (xr S (m.take 8)), by rw [hd], by rw [hd]; exact S8, hid (fun x hx => HMB.out x (List.mem_of_mem_drop hx)), by rw [hd]; omega, by rw [hd]; exact z1, z2, HA2, HX4⟩
      case measure => simp [lenOf]; omega
    · have t1 : decide ((8 : Int) ≤ (m.length : Int)) = false := by simp; omega
      have i1 : (0 : Int) ≤ (m.length : Int) := by omega
      have i2 : (m.length : Int) < 8 := by omega
      obtain ⟨R6, hR6⟩ : ∃ x, x = wr.heap.size := ⟨_, rfl⟩
      have c0 : wr.cell? ⟨R1, 0, none⟩ = some (.int .u64 (wi S.a)) := by rw [cell_of_row _ _ _ _ _ _ HR.out.r]; rfl
      have y0 := block_lt_of_cell c0
      have k6 := hid (show R1 < R6 by rw [hR6]; exact y0)
      have ga := World.grownBy_alloc wr (.cells (bv (zs 8)).toArray 137) none
      have HX0 := hid (HR.out.call ga)
      have HM0 := hid (Sl.kn (Sl.kn HM.out HR.out.g) ga)
      have B0 := hid (heap_at (w := wr) (o := .cells (bv (zs 8)).toArray 137) hR6)
      have HR6 := hid hR6
      clear ga hR6 c0 y0
      go_wp2_with (first
        | (refine wpList_copySl rfl (.tmp 24) (.tmp 25) 108 108 5 137 rfl wr.heap.size 8 8 m.length _ (bv m) (bv (zs 8)) Try.underlying108 Try.underlying108 bytes1 rfl rfl HM0.out (by rw [← HR6.out]; exact B0.out) (by omega) (by rw [bv_length]; unfold zs; simp; omega) (bv_ones _) ?_; intro w5 g5 h5; have G5 := hid g5; have H5 := hid h5; clear g5 h5)
        | (refine wpList_storeAt rfl 5 (.tmp 29) (.const (.int .u8 1)) rfl rfl rfl (tyB 1) H5.out (by rw [List.length_append, List.length_drop, bv_length, bv_length]; unfold zs; simp; omega) ?_; intro w6 g6 h6; have G6 := hid g6; have H6 := hid h6; clear g6 h6)
        | fail)
      go_frame
      have HX6 := hid ((HX0.out.far G5.out (by have := k6.out; have := HR6.out; omega)).far G6.out (by have := k6.out; have := HR6.out; omega))
      have hrow := H6.out
      rw [last_row m (by omega)] at hrow
      have hlen : (m ++ 1 :: zs (7 - m.length)).length = 8 := by unfold zs; simp; omega
      have HW := hid (sl_blk hrow (n := 8) (by rw [bv_length, hlen]; omega))
      have HWL := hid hlen
      have HWB := hid (show ∀ x ∈ m ++ 1 :: zs (7 - m.length), x < 256 from fun x hx => by
        rcases List.mem_append.1 hx with hx | hx
        · exact HMB.out x hx
        · rcases List.mem_cons.1 hx with rfl | hx
          · omega
          · unfold zs at hx; have := (List.mem_replicate.1 hx).2; omega)
      have HF3 := hid (show perm (xr S (m ++ 1 :: zs (7 - m.length))) = fin by rw [← ab_small h8]; exact HAS.out)
      clear hrow hlen H6 H5 G5 G6 HX0 HM0 B0
      have c0 : w6.cell? ⟨R1, 0, none⟩ = some (.int .u64 (wi S.a)) := by rw [cell_of_row _ _ _ _ _ _ HX6.out.r]; rfl
      have f0 : w6.frozen? ⟨R1, 0, none⟩ = false := frozen_of_row _ _ _ _ _ HX6.out.r
      have y0 := block_lt_of_cell c0
      refine wp_region_quiet_tail 5 (by kernel_rfl) (by kernel_rfl) ?_
      simp only [List.take_succ_cons, List.take_zero, List.drop_succ_cons, List.drop_zero]
      repeat (quiet_step (fail))
      quiet_step ((exact Calls.quiet_of_same (word_quiet HW.out HWL.out HWB.out _)))
      repeat (quiet_step (fail))
      refine wpQuiet_nil ?_
      intro _ hwq
      obtain ⟨nq, hwq⟩ := hwq
      subst hwq
      have HX7 := hid (AbR.xor (n := nq) HX6.out (m ++ 1 :: zs (7 - m.length)) rfl)
      go_wp2_with (first
        | (refine wpList_loadTY rfl 126 (.tmp 5) rfl rfl (tySt (xr S (m ++ 1 :: zs (7 - m.length)))) HX7.out.r ?_)
        | fail)
      refine (perm_walk _ _).mono ?_
      rintro e w8 ⟨rfl, g8⟩
      have HX8 := hid (HX7.out.call g8)
      clear g8
      rw [HF3.out]
      go_wp2_with (first
        | (refine wpList_storeTYg rfl 126 (.tmp 4) (.tmp 37) rfl rfl rfl (tySt fin) HX8.out.z rfl ?_; intro w9 g9 h9; have G9 := hid g9; have H9 := hid h9; clear g9 h9)
        | fail)
      exact ret_cell (b := R0) rfl rfl (tySt fin) H9.out rfl ⟨rfl, grown_newR HX8.out.g G9.out HX8.out.lo.1⟩
end Go.Proofs.Yteakoleceoclkaa
