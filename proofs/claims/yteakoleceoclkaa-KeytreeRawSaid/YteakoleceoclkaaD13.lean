/- Digests: Sum, Bytes and Keyed of the reference. -/
import Derived.Test.YteakoleceoclkaaD12
namespace Go.Proofs.Yteakoleceoclkaa
open Go.RowKit
set_option linter.unusedSimpArgs false
set_option linter.unusedVariables false

/-- a boxed digest and a block of zeros were made ahead of a call -/
theorem pause2K {P : Program} {f : Nat} {args : Array Value} {R : Ending → World → Prop} {w : World} {C : List Value} (h : ∀ W : World, Hid (w.grownBy W none) → Hid (W.heap[w.heap.size]? = some (.cells C.toArray 29 (0, 0))) → Hid (W.heap[w.heap.size + 1]? = some (.cells (bv (zs 32)).toArray 29 (0, 0))) → Calls P f args W R) :
    Calls P f args ((w.alloc (.cells C.toArray 29)).alloc (.cells #[.int .u8 0, .int .u8 0, .int .u8 0, .int .u8 0, .int .u8 0, .int .u8 0, .int .u8 0, .int .u8 0, .int .u8 0, .int .u8 0, .int .u8 0, .int .u8 0, .int .u8 0, .int .u8 0, .int .u8 0, .int .u8 0, .int .u8 0, .int .u8 0, .int .u8 0, .int .u8 0, .int .u8 0, .int .u8 0, .int .u8 0, .int .u8 0, .int .u8 0, .int .u8 0, .int .u8 0, .int .u8 0, .int .u8 0, .int .u8 0, .int .u8 0, .int .u8 0] 29)) R :=
  h _ (hid (grown_trans (World.grownBy_alloc _ _ _) (World.grownBy_alloc _ _ _))) (hid (by rw [heap_past (by simp), heap_at rfl])) (hid (by rw [heap_at (by simp)]; rfl))
theorem bv_put (l : List Nat) (n k : Nat) (hl : l.length = n) (hk : k < n) : (bv (l.take k ++ zs (n - k))).take k ++ ([Value.int .u8 (l.getD k 0 : Nat)] ++ (bv (l.take k ++ zs (n - k))).drop (k + 1)) = bv (l.take (k + 1) ++ zs (n - (k + 1))) := by
  have e0 : (bv (l.take k)).length = k := by rw [bv_length, List.length_take]; omega
  have hkl : k < l.length := by omega
  rw [bv_append, List.take_left' e0, List.drop_append, List.drop_of_length_le (by rw [e0]; omega), e0, List.take_succ_eq_append_getElem hkl, bv_append, bv_append]
  have e1 : (bv (zs (n - k))).drop (k + 1 - k) = bv (zs (n - (k + 1))) := by
    unfold bv zs
    rw [← List.map_drop, List.drop_replicate]
    congr 2
    omega
  have e2 : l.getD k 0 = l[k] := by rw [List.getD_eq_getElem?_getD, List.getElem?_eq_getElem hkl]; rfl
  rw [e1, e2]
  simp [bv]
/-- two blocks of zeros were made ahead of a call -/
theorem pause2C {P : Program} {f : Nat} {args : Array Value} {R : Ending → World → Prop} {w : World} (h : ∀ W : World, Hid (w.grownBy W none) → Hid (W.heap[w.heap.size]? = some (.cells (bv (zs 32)).toArray 29 (0, 0))) → Hid (W.heap[w.heap.size + 1]? = some (.cells (bv (zs 32)).toArray 29 (0, 0))) → Calls P f args W R) :
    Calls P f args ((w.alloc (.cells #[.int .u8 0, .int .u8 0, .int .u8 0, .int .u8 0, .int .u8 0, .int .u8 0, .int .u8 0, .int .u8 0, .int .u8 0, .int .u8 0, .int .u8 0, .int .u8 0, .int .u8 0, .int .u8 0, .int .u8 0, .int .u8 0, .int .u8 0, .int .u8 0, .int .u8 0, .int .u8 0, .int .u8 0, .int .u8 0, .int .u8 0, .int .u8 0, .int .u8 0, .int .u8 0, .int .u8 0, .int .u8 0, .int .u8 0, .int .u8 0, .int .u8 0, .int .u8 0] 29)).alloc (.cells #[.int .u8 0, .int .u8 0, .int .u8 0, .int .u8 0, .int .u8 0, .int .u8 0, .int .u8 0, .int .u8 0, .int .u8 0, .int .u8 0, .int .u8 0, .int .u8 0, .int .u8 0, .int .u8 0, .int .u8 0, .int .u8 0, .int .u8 0, .int .u8 0, .int .u8 0, .int .u8 0, .int .u8 0, .int .u8 0, .int .u8 0, .int .u8 0, .int .u8 0, .int .u8 0, .int .u8 0, .int .u8 0, .int .u8 0, .int .u8 0, .int .u8 0, .int .u8 0] 29)) R :=
  h _ (hid (grown_trans (World.grownBy_alloc _ _ _) (World.grownBy_alloc _ _ _))) (hid (by rw [heap_past (by simp), heap_at rfl]; rfl)) (hid (by rw [heap_at (by simp)]; rfl))
set_option maxRecDepth 100000 in
set_option maxHeartbeats 4000000 in
theorem rsum_walk (dom : BitVec 64) (l : List Nat) (hb : ∀ x ∈ l, x < 256) (hl : l.length ≤ 1000000000000) (s : Value) (w : World) (h : Sl w 1 s l.length (bv l)) :
    Calls Try.prog 94 #[.int .u64 (wi dom), s] w fun e w' => e = .returned (dval (dig dom l)) ∧ w.grownBy w' none := by
  obtain ⟨ao, cap, rfl, hc1, hc2⟩ := Sl.shape h
  have HS := hid h
  have HB := hid hb
  clear h hb
  go_enter Try.func94, Try.ntmps94
  go_wp2_with fail
  refine pause2C fun W GW Z0 Z1 => ?_
  refine (rabsorb_walk dom l HB.out hl _ _ (Sl.kn HS.out GW.out)).mono ?_
  rintro e w1 ⟨rfl, g1⟩
  have Z2 := hid (row_of g1 Z0.out (by simp))
  have Z3 := hid (row_of g1 Z1.out (by simp))
  have G1 := hid (grown_trans GW.out g1)
  clear g1 Z0 Z1 GW
  go_wp2_with fail
  refine (rsqueeze_walk (absorb dom l) 32 (by omega) _).mono ?_
  rintro e w2 ⟨v2, rfl, s2, g2, q2⟩
  have Z0 := hid (row_of g2 Z2.out (by simp))
  have Z1 := hid (row_of g2 Z3.out (by simp))
  have G2 := hid (grown_trans G1.out g2)
  have HL := hid (dig_len dom l)
  rw [show sq (absorb dom l) 32 = dig dom l from rfl] at s2
  obtain ⟨a2, c2, rfl, p1, p2⟩ := Sl.shape s2
  obtain ⟨b, off, rfl, hc⟩ := Sl.bytes s2 (by rw [HL.out]; omega)
  have HC := hid hc
  have hbR : w.heap.size + 1 < b := by
    have h1 := (Array.getElem?_eq_some_iff.1 Z3.out).1
    have h2 := q2 b rfl
    omega
  have HBR := hid hbR
  obtain ⟨dg, hdg⟩ : ∃ d, d = dig dom l := ⟨_, rfl⟩
  rw [← hdg] at HC HL
  have HDG := hid hdg
  have hZ := Z1.out
  have HG0 := hid (World.grownBy.refl w2 (some (w.heap.size + 1)))
  clear s2 hc q2 g2 hbR hdg Z2 Z3 G1 HS HB
  go_wp2
  go_loopw [7] (fun i wr => ∃ k : Nat, k ≤ 32 ∧ i = .int .i64 k ∧ Hid (w2.grownBy wr (some (w.heap.size + 1))) ∧ Hid (wr.heap[w.heap.size + 1]? = some (.cells (bv (dg.take k ++ zs (32 - k))).toArray 29 (0, 0)))) (fun i _ => (32 - intOf i).toNat)
  case atStart => exact ⟨0, by omega, rfl, HG0, Z1⟩
  case round =>
    clear Z1 hZ HG0
    obtain ⟨k, hk, rfl, HG, HR⟩ := hrel
    by_cases hlt : k < 32
    · have i0 : (0 : Int) ≤ (k : Int) := by omega
      have i1 : (k : Int) < 32 := by omega
      have c0 := HG.out.cell (HC.out k (by rw [HL.out]; exact hlt)) (by have := HBR.out; simp; omega)
      have y0 := block_lt_of_cell c0
      have BP := hid (bv_put dg 32 k HL.out hlt)
      generalize dg.getD k 0 = x at *
      go_wp2_with (first
        | (refine wpList_storeAt rfl 5 (.tmp 21) (.tmp 20) rfl rfl rfl (tyB _) HR.out (by rw [bv_length, List.length_append, List.length_take, HL.out]; unfold zs; simp; omega) ?_; intro w3 g3 h3; have G3 := hid g3; have H3 := hid h3; clear g3 h3)
        | fail)
      go_roundw
      case rel => exact ⟨k + 1, by omega, by go_num, hid (grown_trans HG.out G3.out), hid (by have := H3.out; rw [show ([Value.int .u8 (x : Int)] : List Value).length = 1 from rfl, BP.out] at this; exact this)⟩
      case measure => simp [intOf]; omega
    · obtain rfl : k = 32 := by omega
      have hr := HR.out
      rw [List.take_of_length_le (by rw [HL.out]; exact Nat.le_refl _), Nat.sub_self, show dg ++ zs 0 = dg from List.append_nil _] at hr
      have HR2 := hid hr
      have Z4 := hid (row_of HG.out Z0.out (by simp))
      clear hr HR
      go_wp2_with (first
        | (refine wpList_loadTY rfl 29 (.tmp 5) rfl rfl (tyD dg HL.out) HR2.out ?_)
        | (refine wpList_storeTYg rfl 29 (.tmp 4) (.tmp 22) rfl rfl rfl (tyD dg HL.out) Z4.out (by rw [bv_length, HL.out]; rfl) ?_; intro w9 g9 h9; have G9 := hid g9; have H9 := hid h9; clear g9 h9)
        | fail)
      exact ret_cell (b := w.heap.size) rfl rfl (tyD dg HL.out) H9.out rfl ⟨by rw [HDG.out], grown_newR (grown_newR G2.out HG.out (Nat.le_succ _)) G9.out (Nat.le_refl _)⟩
set_option maxRecDepth 100000 in
set_option maxHeartbeats 4000000 in
theorem bytes_walk (d : List Nat) (hd : d.length = 32) (w : World) :
    Calls Try.prog 95 #[dval d] w fun e w' => ∃ v, e = .returned v ∧ Own w' 5 1 v 32 (bv d) ∧ Fresh w w' v := by
  have HL := hid hd
  unfold dval
  obtain ⟨C, hC⟩ : ∃ C, C = bv d := ⟨_, rfl⟩
  rw [← hC]
  have g1 := World.grownBy_alloc w (.cells C.toArray 29) none
  have b0 := row_of (World.grownBy_alloc (w.alloc (.cells C.toArray 29)) (.cells #[] 5) none) (heap_at (w := w) (o := .cells C.toArray 29) rfl) (by simp)
  have HB := hid b0
  have HO := hid (show Own ((w.alloc (.cells C.toArray 29)).alloc (.cells #[] 5)) 5 1 (.slice (some ⟨w.heap.size + 1, 0, none⟩) 0 0) 0 (bv (d.take 0)) from Own.emptyH (by simp))
  have HF := hid (show Fresh w ((w.alloc (.cells C.toArray 29)).alloc (.cells #[] 5)) (.slice (some ⟨w.heap.size + 1, 0, none⟩) 0 0) from Step.grown g1 (Fresh.litH (by simp)))
  have HC := hid hC
  clear hC hd g1 b0
  go_enter Try.func95, Try.ntmps95
  go_wp2
  go_loopw [3, 4] (fun v i wr => ∃ k : Nat, k ≤ 32 ∧ i = .int .i64 k ∧ Hid (Own wr 5 1 v k (bv (d.take k))) ∧ Hid (Fresh w wr v) ∧ Hid (wr.heap[w.heap.size]? = some (.cells C.toArray 29 (0, 0)))) (fun _ i _ => (32 - intOf i).toNat)
  case atStart => exact ⟨0, by omega, rfl, HO, HF, HB⟩
  case round =>
    clear HO HF HB
    obtain ⟨k, hk, rfl, HO, HF, HB⟩ := hrel
    obtain ⟨_, ad, cp, rfl, hcp1, hcp2, _⟩ := Sl.of_own HO.out
    by_cases hlt : k < 32
    · have i0 : (0 : Int) ≤ (k : Int) := by omega
      have i1 : (k : Int) < 32 := by omega
      have hkl : k < d.length := by rw [HL.out]; exact hlt
      have c0 : wr.cell? ⟨w.heap.size, k, none⟩ = some (.int .u8 (d.getD k 0 : Nat)) := by
        rw [cell_of_row _ _ _ _ _ _ HB.out, HC.out]
        simpa using bv_at hkl
      have y0 := block_lt_of_cell c0
      have HT := hid (show bv (d.take k) ++ [.int .u8 (d.getD k 0 : Nat)] = bv (d.take (k + 1)) by
        rw [List.take_succ_eq_append_getElem hkl, bv_append, show d.getD k 0 = d[k] by rw [List.getD_eq_getElem?_getD, List.getElem?_eq_getElem hkl]; rfl]
        rfl)
      clear hkl
      generalize d.getD k 0 = x at *
      go_wp2_with (first
        | (refine wpList_pushH bytesT rfl (.tmp 10) (.tmp 14) rfl (.slice ad k cp) k (bv (d.take k)) rfl HO.out [.int .u8 x] 1 _ rfl rfl rfl rfl (by omega) ?_; intro v3 w3 o3 s3; have O3 := hid o3; have S3 := hid s3; clear o3 s3)
        | fail)
      rw [HT.out] at O3
      go_roundw
      case rel => exact ⟨k + 1, by omega, by go_num, O3, hid (HF.out.trans S3.out), hid (row_of S3.out.1 HB.out (fun e => Own.ne HO.out HB.out (by decide) e.symm))⟩
      case measure => simp [intOf]; omega
    · obtain rfl : k = 32 := by omega
      go_wp2
      go_ret
      exact ⟨_, rfl, by have := HO.out; rw [List.take_of_length_le (by rw [HL.out]; exact Nat.le_refl _)] at this; rw [HC.out]; exact this, HF.out⟩
set_option maxRecDepth 100000 in
set_option maxHeartbeats 4000000 in
theorem rkeyed_walk (dom : BitVec 64) (k l : List Nat) (hk : k.length = 32) (hkb : ∀ x ∈ k, x < 256) (hb : ∀ x ∈ l, x < 256) (hl : l.length ≤ 400000000000) (s : Value) (w : World) (h : Sl w 1 s l.length (bv l)) :
    Calls Try.prog 76 #[.int .u64 (wi dom), dval k, s] w fun e w' => e = .returned (dval (keyed dom k l)) ∧ w.grownBy w' none := by
  obtain ⟨ao, cap, rfl, hc1, hc2⟩ := Sl.shape h
  have HS := hid h
  have HB := hid (show ∀ x ∈ k ++ l, x < 256 from fun x hx => (List.mem_append.1 hx).elim (hkb x) (hb x))
  have HK := hid hk
  obtain ⟨V, hV⟩ : ∃ V, V = dval k := ⟨_, rfl⟩
  clear h hb hkb hk
  unfold dval
  obtain ⟨C, hC⟩ : ∃ C, C = bv k := ⟨_, rfl⟩
  rw [← hC]
  have HC := hid hC
  have HTY := hid (show TY Try.prog 29 C (dval k) by rw [hC]; exact tyD k HK.out)
  have b0 := hid (heap_at (w := w) (o := .cells C.toArray 29) rfl)
  clear hC hV
  go_enter Try.func76, Try.ntmps76
  go_wp2_with (first
    | (refine wpList_loadTY rfl 29 (.tmp 4) rfl rfl HTY.out (row_of (World.grownBy_alloc _ _ none) b0.out (by simp)) ?_)
    | fail)
  refine pause2K fun W GW B0 B1 => ?_
  refine (bytes_walk k HK.out _).mono ?_
  rintro e w1 ⟨v1, rfl, o1, f1⟩
  have O1 := hid o1
  have G1 := hid (grown_trans GW.out f1.1)
  have Z1 := hid (row_of f1.1 B1.out (by simp [Value.ownBlock]))
  have S1 := hid (Sl.kn HS.out (grown_trans GW.out f1.1))
  have L1 := hid f1.2
  clear o1 f1 B0 B1
  go_wp2_with (first
    | (refine wpList_app bytesT rfl (.tmp 9) (.tmp 10) rfl _ 32 (bv k) rfl O1.out _ l.length (bv l) rfl S1.out (bv_all _) (by omega) ?_; intro v2 w2 o2 s2; have O2 := hid o2; have S2 := hid s2; clear o2 s2)
    | fail)
  have hO := Sl.of_own O2.out
  rw [← bv_append, ← HK.out] at hO
  refine (rsum_walk dom (k ++ l) HB.out (by rw [List.length_append, HK.out]; omega) _ _ (by rw [List.length_append]; exact hO)).mono ?_
  clear hO
  rintro e w3 ⟨rfl, g3⟩
  have F1 : Fresh w w1 v1 := ⟨G1.out, fun k hk => by
    rcases L1.out k hk with h | h
    · simp [Value.ownBlock] at h
    · exact .inr (Nat.le_trans GW.out.size h)⟩
  have Z2 := hid (row_of g3 (row_of S2.out.1 Z1.out (fun e => Own.ne O1.out Z1.out (by decide) e.symm)) (by simp))
  have G2 := hid (grown_trans (F1.trans S2.out).1 g3)
  have HL := hid (dig_len dom (k ++ l))
  clear g3 F1
  go_wp2_with (first
    | (refine wpList_storeTYg rfl 29 (.tmp 6) (.tmp 12) rfl rfl rfl (tyD (dig dom (k ++ l)) HL.out) Z2.out (by rw [bv_length, HL.out]; rfl) ?_; intro w9 g9 h9; have G9 := hid g9; have H9 := hid h9; clear g9 h9)
    | fail)
  exact ret_cell (b := w.heap.size + 1) rfl rfl (tyD (dig dom (k ++ l)) HL.out) H9.out rfl ⟨rfl, grown_newR G2.out G9.out (Nat.le_succ _)⟩
end Go.Proofs.Yteakoleceoclkaa
