/- Digests: absorb of the reference. -/
import Derived.Test.YteakoleceoclkaaD7
namespace Go.Proofs.Yteakoleceoclkaa
open Go.RowKit
set_option linter.unusedSimpArgs false
set_option linter.unusedVariables false

theorem Own.empty (w : World) : Own (w.alloc (.cells #[] 5)) 5 1 (.slice (some ⟨w.heap.size, 0, none⟩) 0 0) 0 [] :=
  ⟨rfl, .inr ⟨w.heap.size, 0, #[], rfl, Nat.zero_le _, heap_at rfl, Nat.le_refl _, by unfold maxLen; omega, rfl, rfl⟩⟩
theorem Own.emptyH {w : World} {H : Nat} (h : H = w.heap.size) : Own (w.alloc (.cells #[] 5)) 5 1 (.slice (some ⟨H, 0, none⟩) 0 0) 0 [] := by subst h; exact Own.empty w
theorem Fresh.litH {w : World} {o : Obj} {n c H : Nat} (h : H = w.heap.size) : Fresh w (w.alloc o) (.slice (some ⟨H, 0, none⟩) n c) := by subst h; exact Fresh.lit w o n c
theorem Sl.mid {w : World} {g n cap a m : Nat} {l : List Nat} (h : Sl w 1 (.slice (some ⟨g, 0, none⟩) n cap) n (bv l)) (ha : a + m ≤ n) : Sl w 1 (.slice (some ⟨g, a, none⟩) m (cap - a)) m (bv ((l.drop a).take m)) := by
  obtain ⟨hlx, ao0, cap0, hv, h3, h4, h5, h6⟩ := h
  simp only [Value.slice.injEq] at hv
  obtain ⟨rfl, _, rfl⟩ := hv
  rw [bv_length] at hlx
  refine ⟨by rw [bv_length, List.length_take, List.length_drop]; omega, _, _, rfl, by omega, by omega, fun h => (by cases h), fun x hx => ?_⟩
  obtain rfl := Option.some.inj hx
  refine ⟨rfl, fun j u hu => ?_⟩
  have hj := (List.getElem?_eq_some_iff.1 hu).1
  rw [bv_length, List.length_take] at hj
  have := (h6 _ rfl).2 (a + j) u (by rw [← hu]; unfold bv; rw [List.getElem?_map, List.getElem?_map, List.getElem?_take, if_pos (by omega), List.getElem?_drop])
  simpa using this
theorem bv_all (x : List Nat) : (bv x).all Value.oneCell' = true := by simp [bv, Value.oneCell']
theorem rword_quiet {l : List Nat} {s : Value} {w : World} (h : Sl w 1 s 8 (bv l)) (hl : l.length = 8) (hb : ∀ x ∈ l, x < 256) (n : Nat) : Calls Try.prog 118 #[s] (w.drewN n) fun e w' => e = .returned (.int .u64 (wi (wd l))) ∧ w' = w.drewN n :=
  rword_walk l hl hb s _ (Sl.kept h (grown_drewN _ _) (by cases s.ownBlock <;> simp))
theorem pad_step (l : List Nat) (j : Nat) : bv (l ++ 1 :: zs j) ++ [.int .u8 0] = bv (l ++ 1 :: zs (j + 1)) := by
  unfold zs
  rw [List.replicate_succ']
  simp [bv]
set_option maxRecDepth 100000 in
set_option maxHeartbeats 4000000 in
theorem rabsorb_walk (dom : BitVec 64) (l : List Nat) (hb : ∀ x ∈ l, x < 256) (hl : l.length ≤ 1000000000000) (s : Value) (w : World) (h : Sl w 1 s l.length (bv l)) :
    Calls Try.prog 108 #[.int .u64 (wi dom), s] w fun e w' => e = .returned (sval (absorb dom l)) ∧ w.grownBy w' none := by
  obtain ⟨ao, cap, rfl, hc1, hc2⟩ := Sl.shape h
  have HBt := hid hb
  clear hb
  obtain ⟨fin, hfin⟩ : ∃ f, f = absorb dom l := ⟨_, rfl⟩
  rw [← hfin]
  have HF := hid hfin
  clear hfin
  obtain ⟨R0, hR0⟩ : ∃ x, x = w.heap.size := ⟨_, rfl⟩
  have g0 := hid (World.grownBy_alloc w (.cells #[.int .u64 0, .int .u64 0, .int .u64 0, .int .u64 0, .int .u64 0] 126) none)
  have b0 := hid (heap_at (w := w) (o := .cells #[.int .u64 0, .int .u64 0, .int .u64 0, .int .u64 0, .int .u64 0] 126) hR0)
  have HR0 := hid hR0
  have HS := hid (Sl.kn (Sl.kn h g0.out) (World.grownBy_alloc _ (.cells #[] 5) none))
  clear hR0 h
  go_enter Try.func108, Try.ntmps108
  go_wp2_with (first
    | (refine wpList_app bytesT rfl (.tmp 8) (.tmp 9) rfl _ 0 [] rfl (Own.emptyH (by simp)) _ l.length (bv l) rfl HS.out (bv_all _) (by omega) ?_; intro v1 w1 o1 s1; have O1 := hid o1; have S1 := hid s1; clear o1 s1)
    | (refine wpList_pushH bytesT rfl (.tmp 10) (.tmp 11) rfl v1 (0 + l.length) ([] ++ bv l) rfl O1.out [.int .u8 1] 1 _ rfl rfl rfl rfl (by omega) ?_; intro v2 w2 o2 s2; have O2 := hid o2; have S2 := hid s2; clear o2 s2)
    | fail)
  have F0 : Fresh (w.alloc (.cells #[.int .u64 0, .int .u64 0, .int .u64 0, .int .u64 0, .int .u64 0] 126)) w2 v2 := ((Fresh.litH (by simp)).trans S1.out).trans S2.out
  have b2 := hid (row_of F0.1 b0.out (by simp [Value.ownBlock]))
  have FW := hid (show Fresh w w2 v2 from Step.grown g0.out F0)
  have OW := hid (show Own w2 5 1 v2 (l.length + 1 + 0) (bv (l ++ 1 :: zs 0)) from by have := O2.out; rw [Nat.zero_add, List.nil_append] at this; simpa [bv, zs] using this)
  clear F0 b0 g0 HS O1 S1 O2 S2
  rw [← HR0.out]
  go_loopw [5] (fun v wr => ∃ j : Nat, j ≤ 7 - l.length % 8 ∧ Hid (Own wr 5 1 v (l.length + 1 + j) (bv (l ++ 1 :: zs j))) ∧ Hid (Fresh w wr v) ∧ Hid (wr.heap[R0]? = some (.cells #[.int .u64 0, .int .u64 0, .int .u64 0, .int .u64 0, .int .u64 0] 126 (0, 0)))) (fun v _ => (pad l).length - lenOf v)
  case atStart => exact ⟨0, by omega, OW, FW, b2⟩
  case round =>
    clear OW FW b2
    obtain ⟨j, hj, OW, FW, b2⟩ := hrel
    rename_i vp _
    obtain ⟨_, ad, cp, rfl, hcp1, hcp2, _⟩ := Sl.of_own OW.out
    by_cases hz : (l.length + 1 + j) % 8 = 0
    · obtain rfl : j = 7 - l.length % 8 := by omega
      obtain ⟨N, hN⟩ : ∃ N, N = l.length / 8 + 1 := ⟨_, rfl⟩
      have hn : l.length + 1 + (7 - l.length % 8) = 8 * N := by omega
      have hP : bv (l ++ 1 :: zs (7 - l.length % 8)) = bv (pad l) := rfl
      have hPL : (pad l).length = 8 * N := by rw [pad_len, hN]
      have hN2 : N ≤ 200000000000 := by omega
      rw [hP] at OW
      rename_i hsl _
      clear hsl hz hj
      generalize l.length + 1 + (7 - l.length % 8) = n at *
      subst hn
      have HPL := hid hPL
      have HN := hid hN
      have HFB := hid (show ∀ x ∈ pad l, x < 256 from fun x hx => by
        rcases List.mem_append.1 hx with hx | hx
        · exact HBt.out x hx
        · rcases List.mem_cons.1 hx with rfl | hx
          · omega
          · unfold zs at hx; have := (List.mem_replicate.1 hx).2; omega)
      clear hPL hN hP
      have t1 : ((8 * (N : Int)) % 8 != 0) = false := by simp
      have i0 : (0 : Int) ≤ 8 * (N : Int) := by omega
      have q0 := block_lt_of_cell (show wr.cell? ⟨R0, 0, none⟩ = some (.int .u64 0) by rw [cell_of_row _ _ _ _ _ _ b2.out]; rfl)
      have Q0 := hid q0
      clear q0
      go_wp2_with (first | (refine wpList_buildR rfl 126 _ rfl #[(0, .int .u64 (wi dom)), (1, .int .u64 1), (2, .int .u64 2), (3, .int .u64 3), (4, .int .u64 4)] (by simp only [List.map_toArray, List.map_cons, List.map_nil, Act.eval]; rfl) (bSt _ _ _ _ _ _) ?_) | fail)
      refine (rperm_call ⟨dom, 1, 2, 3, 4⟩ rfl small_wi.1.symm small_wi.2.1.symm small_wi.2.2.1.symm small_wi.2.2.2.symm _).mono ?_
      rintro e w5 ⟨rfl, g5⟩
      have G5 := hid g5
      obtain ⟨R1, hR1⟩ : ∃ x, x = w5.heap.size := ⟨_, rfl⟩
      have HR1 := hid hR1
      have hR01 := hid (show R0 < R1 by have := g5.size; have := Q0.out; omega)
      clear g5 hR1
      go_wp2_with (first
        | (refine wpList_storeTYg rfl 126 (.tmp 6) (.tmp 22) rfl rfl rfl (tySt (start dom)) (heap_at rfl) rfl ?_; intro w6 g6 h6; have G6 := hid g6; have H6 := hid h6; clear g6 h6)
        | fail)
      rw [← HR1.out]
      have ga := World.grownBy_alloc w5 (.cells #[.int .u64 0, .int .u64 0, .int .u64 0, .int .u64 0, .int .u64 0] 126) none
      have HAB := hid (show AbR w w6 R0 R1 (start dom) from by
        have k0 := row_of G5.out b2.out (by simp)
        have k1 := row_of ga k0 (by simp)
        have hh := G6.out
        have h2 := H6.out
        rw [← HR1.out] at hh h2
        have := hR01.out
        have := HR0.out
        exact ⟨grown_newR (grown_trans (grown_trans FW.out.1 G5.out) ga) hh (by omega), ⟨by omega, hR01.out⟩, row_of hh k1 (by simp; omega), h2⟩)
      have HO6 := hid (show Own w6 5 1 (.slice ad (8 * N) cp) (8 * N) (bv (pad l)) from Own.past (Own.kn (Own.kn OW.out G5.out) ga) G6.out (heap_at rfl) (by decide))
      clear ga G5 G6 H6 hR01 HR1 OW FW b2 Q0
      go_loopw [7] (fun i wq => ∃ k : Nat, k ≤ N ∧ i = .int .i64 (8 * (k : Int)) ∧ Hid (AbR w wq R0 R1 (chunks (start dom) (pad l) k)) ∧ Hid (Own wq 5 1 (.slice ad (8 * N) cp) (8 * N) (bv (pad l)))) (fun i _ => (8 * N - intOf i).toNat)
      case atStart => exact ⟨0, by omega, rfl, HAB, HO6⟩
      case round =>
        clear HAB HO6
        obtain ⟨k, hk, rfl, HR, HO⟩ := hrel
        by_cases hlt : k < N
        · have t2 : decide (8 * (k : Int) < 8 * (N : Int)) = true := by simp; omega
          obtain ⟨g, had⟩ : ∃ g, ad = some ⟨g, 0, none⟩ := by
            rcases HO.out.2 with ⟨h1, _⟩ | ⟨g, _, _, h1, _⟩
            · simp at h1; omega
            · simp at h1; exact ⟨g, h1.1⟩
          subst had
          have c0 : wr.cell? ⟨R1, 0, none⟩ = some (.int .u64 (wi (chunks (start dom) (pad l) k).a)) := by rw [cell_of_row _ _ _ _ _ _ HR.out.r]; rfl
          have f0 : wr.frozen? ⟨R1, 0, none⟩ = false := frozen_of_row _ _ _ _ _ HR.out.r
          have y0 := block_lt_of_cell c0
          have e1 : IntKind.i64.wrap (8 * (k : Int) + 8) = 8 * (k : Int) + 8 := by rw [IntKind.wrap_i64]; omega
          have e2 : (8 * (k : Int)).toNat = 8 * k := by omega
          have e3 : (8 * (k : Int) + 8).toNat = 8 * k + 8 := by omega
          have e4 : (0 : Int) ≤ 8 * (k : Int) := by omega
          have e5 : (0 : Int) ≤ 8 * (k : Int) + 8 := by omega
          have e6 : 8 * (k : Int) + 8 ≤ (cp : Int) := by omega
          have e7 : 8 * (k : Int) ≤ 8 * (k : Int) + 8 := by omega
          have e8 : ¬ cp = 8 * k := by omega
          have e9 : 8 * k + 8 - 8 * k = 8 := by omega
          have HX := hid (Sl.mid (m := 8) (a := 8 * k) (Sl.of_own HO.out) (by omega))
          have HXL := hid (show (((pad l).drop (8 * k)).take 8).length = 8 by rw [List.length_take, List.length_drop, HPL.out]; omega)
          have HXB := hid (show ∀ x ∈ ((pad l).drop (8 * k)).take 8, x < 256 from fun x hx => HFB.out x (List.mem_of_mem_drop (List.mem_of_mem_take hx)))
          have HCS := hid (chunks_succ (start dom) (pad l) k)
          go_wp2
          refine wp_region_quiet_tail 9 (by kernel_rfl) (by kernel_rfl) ?_
          simp only [List.take_succ_cons, List.take_zero, List.drop_succ_cons, List.drop_zero]
          repeat (quiet_step (fail))
          quiet_step ((exact Calls.quiet_of_same (rword_quiet HX.out HXL.out HXB.out _)))
          repeat (quiet_step (fail))
          refine wpQuiet_nil ?_
          intro _ hwq
          obtain ⟨nq, hwq⟩ := hwq
          subst hwq
          have HX2 := hid (AbR.xor (n := nq) HR.out (((pad l).drop (8 * k)).take 8) rfl)
          have HO2 := hid (show Own ((wr.drewN nq).setCell ⟨R1, 0, none⟩ (.int .u64 (bits .xor .u64 (wi (chunks (start dom) (pad l) k).a) (wi (wd (((pad l).drop (8 * k)).take 8)))))) 5 1 (.slice (some ⟨g, 0, none⟩) (8 * N) cp) (8 * N) (bv (pad l)) from Own.past (Own.kn HO.out (grown_drewN wr nq)) (grown_setCell (wr.drewN nq) ⟨R1, 0, none⟩ _) HR.out.r (by decide))
          clear e1 e2 e3 e4 e5 e6 e7 e8 e9
          go_wp2_with (first
            | (refine wpList_loadTY rfl 126 (.tmp 6) rfl rfl (tySt (xr (chunks (start dom) (pad l) k) (((pad l).drop (8 * k)).take 8))) HX2.out.r ?_)
            | fail)
          refine (rperm_walk _ _).mono ?_
          rintro e w7 ⟨rfl, g7⟩
          rw [← HCS.out]
          have HX3 := hid (HX2.out.call g7)
          have HO3 := hid (Own.kn HO2.out g7)
          clear g7 c0 f0 y0
          have e1 : IntKind.i64.wrap (8 * (k : Int) + 8) = 8 * (k : Int) + 8 := by rw [IntKind.wrap_i64]; omega
          have e4 : (0 : Int) ≤ 8 * (k : Int) := by omega
          go_wp2_with (first
            | (refine wpList_storeTYg rfl 126 (.tmp 6) (.tmp 40) rfl rfl rfl (tySt (chunks (start dom) (pad l) (k + 1))) HX3.out.r rfl ?_; intro w8 g8 h8; have HX4 := hid (HX3.out.put g8 h8); have HO4 := hid (Own.past HO3.out g8 HX3.out.r (by decide)); clear g8 h8)
            | fail)
          go_roundw
          case rel => exact ⟨k + 1, by omega, by go_num, HX4, HO4⟩
          case measure => simp [intOf]; omega
        · obtain rfl : k = N := by omega
          have t2 : decide (8 * (k : Int) < 8 * (k : Int)) = false := by simp
          have HFN := hid (show chunks (start dom) (pad l) k = fin by rw [HN.out, chunks_pad, HF.out]; rfl)
          rw [HFN.out] at HR
          go_wp2_with (first
            | (refine wpList_loadTY rfl 126 (.tmp 6) rfl rfl (tySt fin) HR.out.r ?_)
            | (refine wpList_storeTYg rfl 126 (.tmp 4) (.tmp 41) rfl rfl rfl (tySt fin) HR.out.z rfl ?_; intro w9 g9 h9; have G9 := hid g9; have H9 := hid h9; clear g9 h9)
            | fail)
          exact ret_cell (b := R0) rfl rfl (tySt fin) H9.out rfl ⟨rfl, grown_newR HR.out.g G9.out HR.out.lo.1⟩
    · have t1 : (((l.length : Int) + 1 + (j : Int)) % 8 != 0) = true := by simp; omega
      have i0 : (0 : Int) ≤ ((l.length + 1 + j : Nat) : Int) := by omega
      go_wp2_with (first
        | (refine wpList_pushH bytesT rfl (.tmp 17) (.tmp 18) rfl (.slice ad (l.length + 1 + j) cp) (l.length + 1 + j) (bv (l ++ 1 :: zs j)) rfl OW.out [.int .u8 0] 1 _ rfl rfl rfl rfl (by omega) ?_; intro v3 w3 o3 s3; have O3 := hid o3; have S3 := hid s3; clear o3 s3)
        | fail)
      go_roundw
      case rel =>
        exact ⟨j + 1, by omega, hid (by have := O3.out; rw [pad_step] at this; exact this), hid (FW.out.trans S3.out), hid (row_of S3.out.1 b2.out (fun e => Own.ne OW.out b2.out (by decide) e.symm))⟩
      case measure =>
        obtain ⟨_, ad3, cp3, rfl, _⟩ := Sl.of_own O3.out
        simp only [lenOf, pad_len]
        omega
end Go.Proofs.Yteakoleceoclkaa
