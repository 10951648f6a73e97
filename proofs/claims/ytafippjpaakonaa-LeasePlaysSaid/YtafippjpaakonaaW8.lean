/- Leases: slices.DeleteFunc, Delete. -/
import Derived.Test.YtafippjpaakonaaW7
namespace Go.Proofs.Ytafippjpaakonaa
open Go.RowKit
set_option linter.unusedSimpArgs false
set_option linter.unusedVariables false

def keeps (n : Int) (x : Ls) : Bool := decide (n < x.till)
theorem zero38 (w : World) : (zeroValue 38).run Try.prog w = .ok (.agg #[.int .i64 0, .int .i64 0, .int .i64 0, .int .i64 0]) w := by kernel_rfl
theorem zero_one : ∀ v ∈ (Value.agg #[.int .i64 0, .int .i64 0, .int .i64 0, .int .i64 0]).cells.toList, v.oneCell' = true := by
  intro v hv
  simp [Value.cells] at hv
  subst hv
  rfl
theorem keep_all {n : Int} {l : List Ls} (h : ∀ j, j < l.length → n < (l.getD j Ls.zero).till) : l.filter (keeps n) = l :=
  List.filter_eq_self.2 fun x hx => by
    obtain ⟨j, hj, rfl⟩ := List.getElem_of_mem hx
    have := h j hj
    rw [getD_of hj] at this
    simpa [keeps] using this
theorem take_succ_getD {l : List Ls} {j : Nat} (hj : j < l.length) : l.take (j + 1) = l.take j ++ [l.getD j Ls.zero] := by
  rw [List.take_succ_eq_append_getElem hj, getD_of hj]
theorem getD_drop {L l : List Ls} {j : Nat} (h : L.drop j = l.drop j) (hl : L.length = l.length) (hj : j < l.length) : L.getD j Ls.zero = l.getD j Ls.zero := by
  have h1 := congrArg (fun x => x.getD 0 Ls.zero) h
  simpa [List.getD_eq_getElem?_getD, List.getElem?_drop] using h1
set_option maxRecDepth 100000 in
set_option maxHeartbeats 2000000 in
theorem deleteFunc_walk (l : List Ls) (n : Int) (C : Nat) (s : Value) (w : World) (hown : Own w 38 4 s l.length (l.flatMap lcells)) (hC : w.cell? ⟨C, 0, none⟩ = some (.int .i64 n)) (hCs : s.ownBlock ≠ some C) (hn : l.length ≤ 1000000) :
    Calls Try.prog 32 #[s, .func (.func 33) #[] #[.pointer (some ⟨C, 0, none⟩)]] w fun e w' => ∃ v', e = .returned v' ∧ Own w' 38 4 v' (l.filter (keeps n)).length ((l.filter (keeps n)).flatMap lcells) ∧ Step w s w' v' := by
  have hR := Own.rd hown
  obtain ⟨ao, cap, rfl, hc1, hc2⟩ := Sl.shape hR
  have HO := hid hown
  have HC := hid hC
  have HCS := hid hCs
  have IX := hid (indexFunc_walk l n C _ w hR hC hn)
  clear hown hC hR hCs
  go_enter Try.func32, Try.ntmps32
  go_wp2_with fail
  refine IX.out.mono ?_
  rintro e w1 ⟨⟨k, hk, hj, hcase⟩, g1⟩
  have HJ := hid hj
  have G1 := hid g1
  clear hj g1
  rcases hcase with ⟨hkl, ht, rfl⟩ | ⟨rfl, rfl⟩
  · have HT := hid ht
    clear ht
    obtain ⟨g, cap', hs⟩ := HO.out.shp (by omega)
    simp only [Value.slice.injEq] at hs
    obtain ⟨rfl, _, rfl⟩ := hs
    have O1 := hid (HO.out.kn G1.out)
    have hk1 : ((k : Int) == -1) = false := by simp
    go_wp2
    go_loopw [5, 6] (fun iv jv wr => ∃ i j : Nat, ∃ L : List Ls, i < j ∧ j ≤ l.length ∧ iv = .int .i64 i ∧ jv = .int .i64 j ∧ L.length = l.length ∧ L.take i = (l.take j).filter (keeps n) ∧ L.drop j = l.drop j ∧ Own wr 38 4 (.slice (some ⟨g, 0, none⟩) l.length cap) l.length (L.flatMap lcells) ∧ w1.grownBy wr (some g)) (fun _ jv _ => l.length - (intOf jv).toNat)
    case atStart =>
      refine ⟨k, k + 1, l, by omega, by omega, rfl, by first | rfl | go_num, rfl, ?_, rfl, O1.out, World.grownBy.refl _ _⟩
      rw [take_succ_getD hkl, List.filter_append, keep_all (l := l.take k) (fun j hj => by
        have hjl : j < k := by simp at hj; omega
        have := HJ.out j hjl
        rw [List.getD_eq_getElem?_getD, List.getElem?_take, if_pos hjl, ← List.getD_eq_getElem?_getD]
        exact this)]
      have : keeps n (l.getD k Ls.zero) = false := by unfold keeps; exact decide_eq_false (by have := HT.out; omega)
      rw [List.filter_cons, this]
      simp
    case round =>
      obtain ⟨i, j, L, hij, hj, rfl, rfl, hL, hLt, hLd, ho, hg⟩ := hrel
      have HL := hid hL
      have HLt := hid hLt
      have HLd := hid hLd
      have O := hid ho
      have G := hid hg
      clear hL hLt hLd ho hg
      by_cases hlt : j < l.length
      · have hLj := getD_drop HLd.out HL.out hlt
        have hRd : Rd wr (.slice (some ⟨g, 0, none⟩) l.length cap) L := Own.rd O.out
        obtain ⟨d0, d1, d2, d3⟩ := Rd.four hRd j (by have := HL.out; omega)
        rw [hLj] at d0 d1 d2 d3
        simp only [Nat.zero_add] at d0 d1 d2 d3
        have hi1 : (0 : Int) ≤ (j : Int) := by omega
        have hi2 : (j : Int) < (l.length : Int) := by omega
        have hi3 : (0 : Int) ≤ (i : Int) := by omega
        have hi4 : (i : Int) < (l.length : Int) := by omega
        obtain ⟨x, hxx⟩ : ∃ x, x = l.getD j Ls.zero := ⟨_, rfl⟩
        rw [← hxx] at d0 d1 d2 d3
        have HXX := hid hxx
        have z1 := block_lt_of_cell d0
        clear hLj hRd hxx
        have hCr : wr.cell? ⟨C, 0, none⟩ = some (.int .i64 n) := G.out.cell (G1.out.cell HC.out (by simp)) (by simpa [Value.ownBlock] using fun e => HCS.out (by simp [Value.ownBlock, e]))
        have hX := expired2_walk x n C (wr.alloc (.cells #[.int .i64 x.name, .int .i64 x.holder, .int .i64 x.token, .int .i64 x.till] 38)) ((World.grownBy_alloc _ _ none).cell hCr (by simp))
        have HX := hid hX
        have ga := World.grownBy_alloc wr (.cells #[.int .i64 x.name, .int .i64 x.holder, .int .i64 x.token, .int .i64 x.till] 38) none
        have hbx := heap_at (w := wr) (o := .cells #[.int .i64 x.name, .int .i64 x.holder, .int .i64 x.token, .int .i64 x.till] 38) rfl
        have GA := hid ga
        have HBX := hid hbx
        clear hX hCr ga hbx
        go_wp2_with fail
        refine HX.out.mono ?_
        rintro e w3 ⟨rfl, g3⟩
        have hb3 := row_of g3 HBX.out (by simp)
        have G3 := hid (grown_trans GA.out g3)
        have O3 := hid (O.out.kn G3.out)
        have e0 : w3.cell? ⟨wr.heap.size, 0, none⟩ = some (.int .i64 x.name) := by rw [cell_of_row _ _ _ _ _ _ hb3]; rfl
        have e1 : w3.cell? ⟨wr.heap.size, 1, none⟩ = some (.int .i64 x.holder) := by rw [cell_of_row _ _ _ _ _ _ hb3]; rfl
        have e2 : w3.cell? ⟨wr.heap.size, 2, none⟩ = some (.int .i64 x.token) := by rw [cell_of_row _ _ _ _ _ _ hb3]; rfl
        have e3 : w3.cell? ⟨wr.heap.size, 3, none⟩ = some (.int .i64 x.till) := by rw [cell_of_row _ _ _ _ _ _ hb3]; rfl
        have hT1 := take_succ_getD hlt
        rw [← HXX.out] at hT1
        have HT1 := hid hT1
        have GG := hid (grown_trans G.out (grown_none (row := some g) G3.out))
        clear hT1 g3 hb3 d0 d1 d2 d3 z1
        by_cases hx : x.till ≤ n
        · have hdx : decide (x.till ≤ n) = true := decide_eq_true hx
          have hkp : keeps n x = false := decide_eq_false (by omega)
          have HKP := hid hkp
          clear hx hkp
          go_wp2
          go_roundw
          case rel =>
            refine ⟨i, j + 1, L, by omega, by omega, rfl, by go_num, HL.out, ?_, ?_, O3.out, GG.out⟩
            · rw [HT1.out, List.filter_append, List.filter_cons, HKP.out, HLt.out]
              simp
            · rw [← List.drop_drop, ← List.drop_drop, HLd.out]
          case measure => simp [intOf]; omega
        · have hdx : decide (x.till ≤ n) = false := decide_eq_false hx
          have hkp : keeps n x = true := decide_eq_true (by omega)
          have HKP := hid hkp
          clear hx hkp
          obtain ⟨D, hD, _, _, hDl, _⟩ := O3.out.blk
          have HD := hid hD
          have hDl2 : i * 4 + (lcells x).length ≤ D.length := by rw [hDl]; simp [lcells]; omega
          have HDL := hid hDl2
          clear hD hDl hDl2
          go_wp2_with (first | (refine wpList_storeAt rfl 38 (.tmp 33) (.tmp 32) rfl rfl rfl (tyL x) HD.out HDL.out ?_; intro w5 g5 h5; have O5 := hid (Own.put1 O3.out (by omega) x HD.out h5); have G5 := hid (grown_trans GG.out g5); clear g5 h5) | fail)
          go_roundw
          case rel =>
            refine ⟨i + 1, j + 1, L.set i x, by omega, by omega, by go_num, by go_num, by simp [HL.out], ?_, ?_, O5.out, G5.out⟩
            · rw [HT1.out, List.filter_append, List.filter_cons, HKP.out, ← HLt.out]
              have hiL : i < L.length := by have := HL.out; omega
              rw [List.take_succ_eq_append_getElem (by simpa using hiL), List.take_set_of_le (Nat.le_refl _)]
              simp
            · rw [List.drop_set_of_lt (by omega), ← List.drop_drop, ← List.drop_drop, HLd.out]
          case measure => simp [intOf]; omega
      · obtain rfl : j = l.length := by omega
        have hLt := HLt.out
        rw [List.take_length] at hLt
        have hil : (l.filter (keeps n)).length = i := by rw [← hLt, List.length_take, HL.out]; omega
        have OL := O.out.less (i := i) (by omega)
        rw [show (L.flatMap lcells).take (i * 4) = (l.filter (keeps n)).flatMap lcells by
          rw [← hLt]
          have : L.flatMap lcells = (L.take i).flatMap lcells ++ (L.drop i).flatMap lcells := by rw [← List.flatMap_append, List.take_append_drop]
          rw [this, List.take_left' (by rw [lcells_len, List.length_take, HL.out]; omega)]] at OL
        have OLH := hid OL
        have HIL := hid hil
        have hcc : ¬ (cap = i) := by omega
        have hi3 : (0 : Int) ≤ (i : Int) := by omega
        have hi4 : (i : Int) ≤ (l.length : Int) := by omega
        have hi5 : (i : Int) ≤ (cap : Int) := by omega
        have hcl := run_clear_blk leaseT zero38 zero_one 0 wr g i cap i (l.length - i) (cap - i) (some ⟨g, i * 4, none⟩) _ OL (fun _ => rfl) (Nat.le_refl _) (by omega)
        obtain ⟨w6, hr6, g6, o6⟩ := hcl
        have HR6 := hid hr6
        have G6 := hid (grown_trans G.out g6)
        have O6 := hid o6
        clear hLt hil OL hr6 g6 o6
        go_wp2_with (first | (refine wpList_clearR rfl (.tmp 38) 22 rfl _ rfl HR6.out ?_) | fail)
        go_ret
        exact ⟨_, rfl, by rw [HIL.out]; exact O6.out, grown_trans (grown_none G1.out) G6.out, fun k hk => .inl hk⟩
  · have hall := keep_all HJ.out
    have HA := hid hall
    clear hall
    go_wp2
    go_ret
    exact ⟨_, rfl, by rw [HA.out]; exact HO.out.kn G1.out, grown_none G1.out, fun k hk => .inl hk⟩
set_option maxRecDepth 100000 in
set_option maxHeartbeats 2000000 in
/-- slices.Delete(s, i, i+1) -/
theorem delete_walk (l : List Ls) (i : Nat) (s : Value) (w : World) (hown : Own w 38 4 s l.length (l.flatMap lcells)) (hi : i < l.length) (hn : l.length ≤ 1000000) :
    Calls Try.prog 41 #[s, .int .i64 i, .int .i64 ((i : Int) + 1)] w fun e w' => ∃ v', e = .returned v' ∧ Own w' 38 4 v' (l.take i ++ l.drop (i + 1)).length ((l.take i ++ l.drop (i + 1)).flatMap lcells) ∧ Step w s w' v' := by
  obtain ⟨g, cap, rfl⟩ := hown.shp (by omega)
  obtain ⟨D, hD, hnc, hcm, hDl, hDt⟩ := hown.blk
  have hcm : cap ≤ 9223372036854775807 := hcm
  have hlen : (l.take i ++ l.drop (i + 1)).length = l.length - 1 := by simp; omega
  obtain ⟨off, hoff1, hoff2⟩ : ∃ off, (cap = i + 1 → off = 0) ∧ (¬ cap = i + 1 → off = (i + 1) * 4) := ⟨if cap = i + 1 then 0 else (i + 1) * 4, fun h => if_pos h, fun h => if_neg h⟩
  have hsrc : Sl w.drew 4 (.slice (some ⟨g, off, none⟩) (l.length - (i + 1)) (cap - (i + 1))) (l.length - (i + 1)) ((l.drop (i + 1)).flatMap lcells) := by
    refine ⟨by rw [lcells_len, List.length_drop], some ⟨g, off, none⟩, cap - (i + 1), rfl, by omega, by unfold maxLen; omega, fun h => (by cases h), fun a ha => ?_⟩
    obtain rfl := Option.some.inj ha
    refine ⟨rfl, fun j u hu => ?_⟩
    have e : l.flatMap lcells = (l.take (i + 1)).flatMap lcells ++ (l.drop (i + 1)).flatMap lcells := by rw [← List.flatMap_append, List.take_append_drop]
    have hj := (List.getElem?_eq_some_iff.1 hu).1
    rw [lcells_len, List.length_drop] at hj
    obtain rfl := hoff2 (by omega)
    have h2 : (l.flatMap lcells)[(i + 1) * 4 + j]? = some u := by
      rw [e, List.getElem?_append_right (by rw [lcells_len, List.length_take]; omega), lcells_len, List.length_take, Nat.min_eq_left (by omega), Nat.add_sub_cancel_left]
      exact hu
    have h3 : w.cell? ⟨g, (i + 1) * 4 + j, none⟩ = some u := by
      rw [cellsAt hD, ← h2, ← hDt, List.getElem?_take, if_pos (by omega)]
    exact h3
  have hless : Own w.drew 38 4 (.slice (some ⟨g, 0, none⟩) i cap) i ((l.flatMap lcells).take (i * 4)) := (hown.less (by omega)).drew
  have htk : (l.flatMap lcells).take (i * 4) = (l.take i).flatMap lcells := by
    have e : l.flatMap lcells = (l.take i).flatMap lcells ++ (l.drop i).flatMap lcells := by rw [← List.flatMap_append, List.take_append_drop]
    rw [e, List.take_left' (by rw [lcells_len, List.length_take]; omega)]
  rw [htk] at hless
  obtain ⟨w2, hr2, ho2, hg2⟩ := run_app_room leaseT 22 hless hsrc (leases_one _) (by omega) (by omega)
  rw [← List.flatMap_append] at ho2
  have hsum : i + (l.length - (i + 1)) = l.length - 1 := by omega
  rw [hsum] at hr2 ho2
  obtain ⟨w3, hr3, hg3, ho3⟩ := run_clear_blk leaseT zero38 zero_one 0 w2 g (l.length - 1) cap (l.length - 1) 1 (cap - (l.length - 1)) (some ⟨g, (l.length - 1) * 4, none⟩) _ ho2 (fun _ => rfl) (Nat.le_refl _) (by omega)
  have HR2 := hid hr2
  have HR3 := hid hr3
  have O3 := hid ho3
  have G3 := hid (grown_trans (grown_trans (grown_none (row := some g) (grown_drew w)) hg2) hg3)
  have HLEN := hid hlen
  have z1 : (0 : Int) ≤ (i : Int) := by omega
  have z2 : (i : Int) < (l.length : Int) := by omega
  have z3 : (l.length : Int) ≤ (cap : Int) := by omega
  have z4 : (i : Int) ≤ (cap : Int) := by omega
  have z5 : (i : Int) + 1 ≤ (l.length : Int) := by omega
  have z6 : (0 : Int) ≤ (i : Int) + 1 := by omega
  have z7 : ((i : Int) + 1).toNat = i + 1 := by omega
  have z8 : (i : Int) ≤ (i : Int) + 1 := by omega
  have q1 : ¬ (cap = l.length - 1) := by omega
  have q2 : l.length - (l.length - 1) = 1 := by omega
  have q3 : ((l.length - 1 : Nat) : Int) ≤ (l.length : Int) := by omega
  have q4 : (0 : Int) ≤ ((l.length - 1 : Nat) : Int) := by omega
  have q5 : (l.length : Int) ≤ (cap : Int) := by omega
  have hcm2 : (cap : Int) ≤ 9223372036854775807 := by omega
  clear hD hDl hDt hsrc hless htk hr2 hr3 ho2 hg2 ho3 hg3 hlen hown
  go_enter Try.func41, Try.ntmps41
  by_cases hci : cap = i + 1
  · obtain rfl := hoff1 hci
    clear hoff1 hoff2
    have hr2 := HR2.out
    have hr3 := HR3.out
    have ho3 := O3.out
    rw [hci] at hr2 hr3 ho3
    rw [Nat.sub_self (i + 1)] at hr2
    have HR2 := hid hr2
    have HR3 := hid hr3
    have O3 := hid ho3
    clear hr2 hr3 ho3
    go_wp2_with fail
    go_region_law (first | (refine step_appR rfl (.tmp 22) (.tmp 25) 22 22 rfl _ _ (by simp [Act.eval, Act.put]) (by simp [Act.eval, Act.put]) HR2.out ?_) | fail)
    all_goals
      go_wp2_with (first | (refine wpList_clearR rfl (.tmp 31) 22 rfl _ rfl HR3.out ?_) | fail)
      go_ret
      exact ⟨_, rfl, by rw [HLEN.out]; exact O3.out, G3.out, fun k hk => .inl hk⟩
  · obtain rfl := hoff2 hci
    go_wp2_with fail
    go_region_law (first | (refine step_appR rfl (.tmp 22) (.tmp 25) 22 22 rfl _ _ (by simp [Act.eval, Act.put]) (by simp [Act.eval, Act.put]) HR2.out ?_) | fail)
    all_goals
      go_wp2_with (first | (refine wpList_clearR rfl (.tmp 31) 22 rfl _ rfl HR3.out ?_) | fail)
      go_ret
      exact ⟨_, rfl, by rw [HLEN.out]; exact O3.out, G3.out, fun k hk => .inl hk⟩
end Go.Proofs.Ytafippjpaakonaa
