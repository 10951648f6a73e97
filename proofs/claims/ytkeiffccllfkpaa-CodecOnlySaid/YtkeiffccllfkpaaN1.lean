/- The reference's Value, Row, CleanRow, SameRow. -/
import Derived.Test.YtkeiffccllfkpaaN0
namespace Go.Proofs.Ytkeiffccllfkpaa
open Go.RowKit

set_option maxRecDepth 100000 in
set_option maxHeartbeats 1000000 in
theorem refValue_walk (x : V) (w : World) :
    Calls Try.prog 42 #[vval x] w fun e w' => ∃ v, e = .returned v ∧ Own w' 5 1 v (encV x).length (bv (encV x)) ∧ Fresh w w' v := by
  have hok := x.clean_ok
  have HC := hid (rclean_walk x)
  unfold encV
  unfold vval at *
  generalize hy : x.clean = y at *
  clear hy
  obtain ⟨xk, xn, xt⟩ := x
  obtain ⟨k, n, t⟩ := y
  simp only at HC ⊢
  rcases hok with ⟨h1, h2, h3⟩ | ⟨h1, h2, h3, h4⟩ | ⟨h1, h2, h3⟩
  · simp only at h1 h2 h3
    subst h1 h2 h3
    go_enter Try.func42, Try.ntmps42
    go_wp2_with fail
    refine (HC.out _).mono ?_
    rintro e w1 ⟨rfl, hg⟩
    have g1 : w.grownBy w1 none := grown_trans (World.grownBy_alloc _ _ _) hg
    have hb := row_of hg (heap_at rfl) (by simp)
    go_wp2_with (first | (refine wpList_storeTYg rfl 67 (.tmp 1) (.tmp 5) rfl rfl rfl (tyV ⟨0, 0, ByteArray.empty⟩) hb rfl ?_; intro w2 hg2 hb2; have G := hid (grown_newR g1 hg2 (Nat.le_refl _)); have HB := hid hb2; have y0 : ∀ j, w2.cell? ⟨w.heap.size, j, none⟩ = (#[Value.int .i64 (0), .int .i64 (0), .string ByteArray.empty] : Array Value)[j]? := fun j => cell_of_row w2 _ j _ _ _ hb2; clear hg hb hb2 hg2 g1) | fail)
    refine (refInt_walk (0) w2 (by omega) (by omega)).mono ?_
    rintro e w3 ⟨v3, rfl, hown3, hst3⟩
    have hel := enc_len (n := 0) (by omega) (by omega)
    have hb3 := row_of (Step.none hst3) HB.out (by simp)
    have z0 : ∀ j, w3.cell? ⟨w.heap.size, j, none⟩ = (#[Value.int .i64 (0), .int .i64 (0), .string ByteArray.empty] : Array Value)[j]? := fun j => cell_of_row w3 _ j _ _ _ hb3
    have F3 := hid hst3
    have B3 := hid hb3
    clear hst3 hb3 y0
    go_wp2
    go_ret
    exact ⟨v3, rfl, by simpa [encC] using hown3, Step.grown G.out F3.out⟩
  · simp only at h1 h2 h3 h4
    subst h1 h4
    go_enter Try.func42, Try.ntmps42
    go_wp2_with fail
    refine (HC.out _).mono ?_
    rintro e w1 ⟨rfl, hg⟩
    have g1 : w.grownBy w1 none := grown_trans (World.grownBy_alloc _ _ _) hg
    have hb := row_of hg (heap_at rfl) (by simp)
    go_wp2_with (first | (refine wpList_storeTYg rfl 67 (.tmp 1) (.tmp 5) rfl rfl rfl (tyV ⟨1, n, ByteArray.empty⟩) hb rfl ?_; intro w2 hg2 hb2; have G := hid (grown_newR g1 hg2 (Nat.le_refl _)); have HB := hid hb2; have y0 : ∀ j, w2.cell? ⟨w.heap.size, j, none⟩ = (#[Value.int .i64 (1), .int .i64 (n), .string ByteArray.empty] : Array Value)[j]? := fun j => cell_of_row w2 _ j _ _ _ hb2; clear hg hb hb2 hg2 g1) | fail)
    refine (refInt_walk (1) w2 (by omega) (by omega)).mono ?_
    rintro e w3 ⟨v3, rfl, hown3, hst3⟩
    have hel := enc_len (n := 1) (by omega) (by omega)
    have hb3 := row_of (Step.none hst3) HB.out (by simp)
    have z0 : ∀ j, w3.cell? ⟨w.heap.size, j, none⟩ = (#[Value.int .i64 (1), .int .i64 (n), .string ByteArray.empty] : Array Value)[j]? := fun j => cell_of_row w3 _ j _ _ _ hb3
    have F3 := hid hst3
    have B3 := hid hb3
    clear hst3 hb3 y0
    go_wp2_with fail
    refine (refInt_walk n w3 (by omega) (by omega)).mono ?_
    rintro e w4 ⟨v4, rfl, hown4, hst4⟩
    have hown34 := hown3.kn (Step.none hst4)
    have hb4 := row_of (Step.none hst4) B3.out (by simp)
    have x0 : ∀ j, w4.cell? ⟨w.heap.size, j, none⟩ = (#[Value.int .i64 (1), .int .i64 (n), .string ByteArray.empty] : Array Value)[j]? := fun j => cell_of_row w4 _ j _ _ _ hb4
    have hl4 : (enc 1).length + (enc n).length ≤ 1099511627776 := by have := enc_len (n := n) (by omega) (by omega); omega
    have F4 := hid hst4
    have B4 := hid hb4
    have O4 := hid hown4
    have O3 := hid hown34
    have HL := hid hl4
    clear hst4 z0 hown4 hown3 hown34 hb4 hl4 hel
    go_wp2_with (at_builtin; go_must (refine wpList_app bytesT rfl _ _ rfl _ _ _ rfl O3.out _ _ _ rfl (Sl.of_own O4.out) bv_ones HL.out ?_; intro v5 w5 hown5 hst5; have hb5 := row_of hst5.1 B4.out (fun e => Own.ne O3.out B4.out (by decide) e.symm); have u0 : ∀ j, w5.cell? ⟨w.heap.size, j, none⟩ = (#[Value.int .i64 (1), .int .i64 (n), .string ByteArray.empty] : Array Value)[j]? := (fun j => cell_of_row w5 _ j _ _ _ hb5); have O5 := hid hown5; have F5 := hid hst5; clear hown5 hst5 x0 hb5))
    go_ret
    exact ⟨v5, rfl, by simpa [encC, bv_append] using O5.out, Step.grown G.out (F3.out.trans (Step.grown F4.out.1 F5.out))⟩
  · simp only at h1 h2 h3
    subst h1 h2
    go_enter Try.func42, Try.ntmps42
    go_wp2_with fail
    refine (HC.out _).mono ?_
    rintro e w1 ⟨rfl, hg⟩
    have g1 : w.grownBy w1 none := grown_trans (World.grownBy_alloc _ _ _) hg
    have hb := row_of hg (heap_at rfl) (by simp)
    go_wp2_with (first | (refine wpList_storeTYg rfl 67 (.tmp 1) (.tmp 5) rfl rfl rfl (tyV ⟨2, 0, t⟩) hb rfl ?_; intro w2 hg2 hb2; have G := hid (grown_newR g1 hg2 (Nat.le_refl _)); have HB := hid hb2; have y0 : ∀ j, w2.cell? ⟨w.heap.size, j, none⟩ = (#[Value.int .i64 (2), .int .i64 (0), .string t] : Array Value)[j]? := fun j => cell_of_row w2 _ j _ _ _ hb2; clear hg hb hb2 hg2 g1) | fail)
    refine (refInt_walk (2) w2 (by omega) (by omega)).mono ?_
    rintro e w3 ⟨v3, rfl, hown3, hst3⟩
    have hel := enc_len (n := 2) (by omega) (by omega)
    have hb3 := row_of (Step.none hst3) HB.out (by simp)
    have z0 : ∀ j, w3.cell? ⟨w.heap.size, j, none⟩ = (#[Value.int .i64 (2), .int .i64 (0), .string t] : Array Value)[j]? := fun j => cell_of_row w3 _ j _ _ _ hb3
    have F3 := hid hst3
    have B3 := hid hb3
    clear hst3 hb3 y0
    go_wp2_with fail
    refine (refText_walk t w3 (by omega)).mono ?_
    rintro e w4 ⟨v4, rfl, hown4, hst4⟩
    have hown34 := hown3.kn (Step.none hst4)
    have hb4 := row_of (Step.none hst4) B3.out (by simp)
    have x0 : ∀ j, w4.cell? ⟨w.heap.size, j, none⟩ = (#[Value.int .i64 (2), .int .i64 (0), .string t] : Array Value)[j]? := fun j => cell_of_row w4 _ j _ _ _ hb4
    have hl4 : (enc 2).length + (encT t).length ≤ 1099511627776 := by have := encT_len t (by omega); omega
    have F4 := hid hst4
    have B4 := hid hb4
    have O4 := hid hown4
    have O3 := hid hown34
    have HL := hid hl4
    clear hst4 z0 hown4 hown3 hown34 hb4 hl4 hel
    go_wp2_with (at_builtin; go_must (refine wpList_app bytesT rfl _ _ rfl _ _ _ rfl O3.out _ _ _ rfl (Sl.of_own O4.out) bv_ones HL.out ?_; intro v5 w5 hown5 hst5; have hb5 := row_of hst5.1 B4.out (fun e => Own.ne O3.out B4.out (by decide) e.symm); have u0 : ∀ j, w5.cell? ⟨w.heap.size, j, none⟩ = (#[Value.int .i64 (2), .int .i64 (0), .string t] : Array Value)[j]? := (fun j => cell_of_row w5 _ j _ _ _ hb5); have O5 := hid hown5; have F5 := hid hst5; clear hown5 hst5 x0 hb5))
    go_ret
    exact ⟨v5, rfl, by simpa [encC, bv_append] using O5.out, Step.grown G.out (F3.out.trans (Step.grown F4.out.1 F5.out))⟩

set_option maxRecDepth 100000 in
set_option maxHeartbeats 1000000 in
theorem refRow_walk (s : Value) (l : List V) (w : World) (hs : DRow w.heap.size w s l) (hl : l.length ≤ 1000000) :
    Calls Try.prog 44 #[s] w fun e w' => ∃ v, e = .returned v ∧ Own w' 5 1 v (encRow l).length (bv (encRow l)) ∧ Fresh w w' v := by
  obtain ⟨ao, cap, rfl, hnc, hcm⟩ := hs.1.shape
  have HS := hid hs
  clear hs
  go_enter Try.func44, Try.ntmps44
  go_wp2_with fail
  refine (refInt_walk (l.length : Int) w (by omega) (by omega)).mono ?_
  rintro e w1 ⟨v1, rfl, hown1, hst1⟩
  have hel := enc_len (n := (l.length : Int)) (by omega) (by omega)
  have HE := hid hel
  clear hel
  go_wp2
  go_loopw [3, 4] (fun b i wr => ∃ k : Nat, k ≤ l.length ∧ i = .int .i64 k ∧ Own wr 5 1 b (enc l.length ++ (l.take k).flatMap encV).length (bv (enc l.length ++ (l.take k).flatMap encV)) ∧ Fresh w wr b) (fun _ i _ => l.length - (intOf i).toNat)
  case atStart => exact ⟨0, Nat.zero_le _, rfl, by simpa using hown1, hst1⟩
  case round =>
    obtain ⟨k, hk, rfl, hown, hst⟩ := hrel
    by_cases hlt : k < l.length
    · have hbel := none_below hst.1
      obtain ⟨blk, off, rfl, hc⟩ := ((HS.out.below hbel).at hlt).1.elem (fun x _ => rfl) (by decide) k hlt
      have h0 : wr.cell? ⟨blk, off + k * 3, none⟩ = some (.int .i64 l[k].kind) := hc 0 _ rfl
      have h1 : wr.cell? ⟨blk, off + k * 3 + 1, none⟩ = some (.int .i64 l[k].int) := hc 1 _ rfl
      have h2 : wr.cell? ⟨blk, off + k * 3 + 2, none⟩ = some (.string l[k].text) := hc 2 _ rfl
      have HT := hid (take_flat encV l k hlt)
      have hfl := flat_len (l.take k) (n := 60) (f := encV) fun x _ => encV_len x
      rw [List.length_take, Nat.min_eq_left (by omega)] at hfl
      have hel := encV_len l[k]
      have hrm : (enc l.length ++ (l.take k).flatMap encV).length + (encV l[k]).length ≤ 1099511627776 := by
        have := HE.out
        rw [List.length_append]
        omega
      have HF := hid hrm
      generalize l[k] = x at *
      have OK := hid hown
      have SK := hid hst
      clear hown hst hbel hc hfl hel hrm
      go_wp2_with fail
      refine (refValue_walk x wr).mono ?_
      rintro e w3 ⟨v3, rfl, hown3, hst3⟩
      have hown4 := OK.out.kn (Step.none hst3)
      have OW := hid (And.intro hown3 (And.intro hst3 hown4))
      clear hown3 hst3 hown4
      go_wp2_with (at_builtin; go_must (refine wpList_app bytesT rfl _ _ rfl _ _ _ rfl OW.out.2.2 _ _ _ rfl (Sl.of_own OW.out.1) bv_ones HF.out ?_; intro v5 w5 hown5 hst5))
      go_roundw
      case rel => exact ⟨k + 1, by omega, by go_num, by rw [HT.out, ← List.append_assoc, List.length_append (bs := encV x), bv_append _ (encV x)]; exact hown5, SK.out.trans (Step.grown OW.out.2.1.1 hst5)⟩
      case measure => simp [intOf]; omega
    · obtain rfl : k = l.length := by omega
      go_wp2
      go_ret
      rw [List.take_length] at hown
      exact ⟨_, rfl, hown, hst⟩

theorem clean_flat (l : List V) : (l.map V.clean).flatMap vcells = l.flatMap fun v => vcells v.clean := by rw [List.flatMap_map]
set_option maxRecDepth 100000 in
set_option maxHeartbeats 1000000 in
theorem cleanRow_walk (s : Value) (l : List V) (w : World) (hs : DRow w.heap.size w s l) (hl : l.length ≤ 1000000) :
    Calls Try.prog 46 #[s] w fun e w' => ∃ v, e = .returned v ∧ Own w' 67 3 v (l.map V.clean).length ((l.map V.clean).flatMap vcells) ∧ Fresh w w' v := by
  obtain ⟨ao, cap, rfl, hnc, hcm⟩ := hs.1.shape
  have HS := hid hs
  clear hs
  rw [clean_flat, List.length_map]
  go_enter Try.func46, Try.ntmps46
  go_wp2
  go_loopw [3, 4] (fun b i wr => ∃ k : Nat, k ≤ l.length ∧ i = .int .i64 k ∧ Own wr 67 3 b k ((l.take k).flatMap fun v => vcells v.clean) ∧ Fresh w wr b) (fun _ i _ => l.length - (intOf i).toNat)
  case atStart => exact ⟨0, Nat.zero_le _, rfl, Own.nil _ _ _, Step.refl _ _⟩
  case round =>
    obtain ⟨k, hk, rfl, hown, hst⟩ := hrel
    by_cases hlt : k < l.length
    · have hbel := none_below hst.1
      obtain ⟨blk, off, rfl, hc⟩ := ((HS.out.below hbel).at hlt).1.elem (fun x _ => rfl) (by decide) k hlt
      have h0 : wr.cell? ⟨blk, off + k * 3, none⟩ = some (.int .i64 l[k].kind) := hc 0 _ rfl
      have h1 : wr.cell? ⟨blk, off + k * 3 + 1, none⟩ = some (.int .i64 l[k].int) := hc 1 _ rfl
      have h2 : wr.cell? ⟨blk, off + k * 3 + 2, none⟩ = some (.string l[k].text) := hc 2 _ rfl
      have HT := hid (take_flat (fun v => vcells v.clean) l k hlt)
      generalize l[k] = x at *
      have OK := hid hown
      have SK := hid hst
      have HCl := hid (rclean_walk x wr)
      unfold vval at HCl
      clear hown hst hbel hc
      go_wp2_with fail
      refine (HCl.out).mono ?_
      rintro e w3 ⟨rfl, hg3⟩
      have hown4 := OK.out.kn hg3
      have O4 := hid hown4
      have G3 := hid hg3
      clear hown4 hg3
      go_wp2_with (at_builtin; go_must (refine wpList_pushH rowT rfl _ _ rfl _ _ _ rfl O4.out (vcells x.clean) 1 _ rfl rfl rfl rfl (by omega) ?_; intro v5 w5 hown5 hst5))
      go_roundw
      case rel => exact ⟨k + 1, by omega, by go_num, by rw [HT.out]; exact hown5, SK.out.trans (Step.grown G3.out hst5)⟩
      case measure => simp [intOf]; omega
    · obtain rfl : k = l.length := by omega
      go_wp2
      go_ret
      rw [List.take_length] at hown
      exact ⟨_, rfl, hown, hst⟩
end Go.Proofs.Ytkeiffccllfkpaa
