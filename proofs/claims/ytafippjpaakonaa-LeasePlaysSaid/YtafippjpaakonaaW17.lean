/- Leases: the reference's Valid. -/
import Derived.Test.YtafippjpaakonaaW16
namespace Go.Proofs.Ytafippjpaakonaa
open Go.RowKit
set_option linter.unusedSimpArgs false
set_option linter.unusedVariables false

set_option maxRecDepth 100000 in
set_option maxHeartbeats 2000000 in
theorem rvalid_walk (l : List Ls) (next : Int) (s : Value) (w : World) (hR : Rd w s l) (hn : l.length ≤ 1099511627776) :
    Calls Try.prog 23 #[tval next s] w fun e w' => e = .returned (.bool (Tb.ok ⟨next, l⟩)) ∧ w.grownBy w' none := by
  obtain ⟨ao, cap, rfl, hc1, hc2⟩ := Sl.shape hR
  have HR := hid hR
  clear hR
  unfold tval
  obtain ⟨ok, hok⟩ : ∃ ok, ok = Tb.ok ⟨next, l⟩ := ⟨_, rfl⟩
  rw [← hok]
  unfold Tb.ok Top at hok
  simp only at hok
  have OK := hid hok
  clear hok
  have ga := World.grownBy_alloc w (.cells #[.int .i64 next, .slice ao l.length cap] 24) none
  have hb0 := heap_at (w := w) (o := .cells #[.int .i64 next, .slice ao l.length cap] 24) rfl
  have hno : okLs next l = false → ok = false := fun h => by rw [OK.out, h]; simp
  have HO := hid hno
  have GA := hid ga
  have HB := hid hb0
  clear hno ga hb0
  go_enter Try.func23, Try.ntmps23
  go_wp2
  go_loopw [3] (fun i wr => ∃ k : Nat, k ≤ l.length ∧ i = .int .i64 k ∧ (∀ j, j < k → okAt next l j) ∧ w.grownBy wr none ∧ wr.heap[w.heap.size]? = some (.cells #[.int .i64 next, .slice ao l.length cap] 24 (0, 0))) (fun i _ => l.length - (intOf i).toNat)
  case atStart => exact ⟨0, by omega, rfl, fun j hj => by omega, GA.out, HB.out⟩
  case round =>
    obtain ⟨k, hk, rfl, hj, hg, hb⟩ := hrel
    have HJ := hid hj
    have HG := hid hg
    have HBk := hid hb
    clear hj hg hb
    have c0 : wr.cell? ⟨w.heap.size, 0, none⟩ = some (.int .i64 next) := by rw [cell_of_row _ _ _ _ _ _ HBk.out]; rfl
    have c1 : wr.cell? ⟨w.heap.size, 1, none⟩ = some (.slice ao l.length cap) := by rw [cell_of_row _ _ _ _ _ _ HBk.out]; rfl
    by_cases hlt : k < l.length
    · obtain ⟨b, off, rfl⟩ := Rd.base HR.out (by omega)
      have hr := Rd.cellD (Sl.kn HR.out HG.out) k hlt
      have d0 : wr.cell? ⟨b, off + k * 4, none⟩ = some (.int .i64 (l.getD k Ls.zero).name) := hr 0 _ rfl
      have d1 : wr.cell? ⟨b, off + k * 4 + 1, none⟩ = some (.int .i64 (l.getD k Ls.zero).holder) := hr 1 _ rfl
      have d2 : wr.cell? ⟨b, off + k * 4 + 2, none⟩ = some (.int .i64 (l.getD k Ls.zero).token) := hr 2 _ rfl
      have d3 : wr.cell? ⟨b, off + k * 4 + 3, none⟩ = some (.int .i64 (l.getD k Ls.zero).till) := hr 3 _ rfl
      have hi1 : (0 : Int) ≤ (k : Int) := by omega
      have hi2 : (k : Int) < (l.length : Int) := by omega
      have z0 := block_lt_of_cell c0
      have z1 := block_lt_of_cell d0
      clear hr
      by_cases hk0 : 0 < k
      · have hr := Rd.cellD (Sl.kn HR.out HG.out) (k - 1) (by omega)
        have e0 : wr.cell? ⟨b, off + (k - 1) * 4, none⟩ = some (.int .i64 (l.getD (k - 1) Ls.zero).name) := hr 0 _ rfl
        have HT := hid (okAt_pos (next := next) (l := l) hk0)
        have m1 : IntKind.i64.wrap ((k : Int) - 1) = ((k - 1 : Nat) : Int) := by rw [IntKind.wrap_i64]; omega
        have m2 : (0 : Int) ≤ ((k - 1 : Nat) : Int) := by omega
        have m3 : ((k - 1 : Nat) : Int) < (l.length : Int) := by omega
        clear hr
        generalize l.getD (k - 1) Ls.zero = y at *
        generalize l.getD k Ls.zero = x at *
        generalize hjk : k - 1 = j at *
        have HJK := hid hjk
        clear hjk
        have hd0 : decide (0 < k) = true := decide_eq_true hk0
        by_cases hlo : x.name ≤ y.name
        · have hno := HO.out (okLs_no hlt (fun h => by have := (HT.out.1 h).1; omega))
          have HNO := hid hno
          clear hno
          have k0 : decide (x.name ≤ y.name) = true := decide_eq_true hlo
          go_wp2
          go_quiet (fail)
          go_wp2
          go_ret
          exact ⟨by rw [HNO.out]; rfl, grown_trans HG.out (grown_trans (World.grownBy_alloc _ _ _) (grown_drewN _ _))⟩
        by_cases ht1 : x.token < 1
        · have hno := HO.out (okLs_no hlt (fun h => by have := (HT.out.1 h).2.1; omega))
          have HNO := hid hno
          clear hno
          have k0 : decide (x.name ≤ y.name) = false := decide_eq_false hlo
          have k1 : decide (x.token < 1) = true := decide_eq_true ht1
          go_wp2
          go_quiet (fail)
          go_wp2
          go_ret
          exact ⟨by rw [HNO.out]; rfl, grown_trans HG.out (grown_trans (World.grownBy_alloc _ _ _) (grown_drewN _ _))⟩
        by_cases ht2 : next ≤ x.token
        · have hno := HO.out (okLs_no hlt (fun h => by have := (HT.out.1 h).2.2; omega))
          have HNO := hid hno
          clear hno
          have k0 : decide (x.name ≤ y.name) = false := decide_eq_false hlo
          have k1 : decide (x.token < 1) = false := decide_eq_false ht1
          have k2 : decide (next ≤ x.token) = true := decide_eq_true ht2
          go_wp2
          go_quiet (fail)
          go_wp2
          go_ret
          exact ⟨by rw [HNO.out]; rfl, grown_trans HG.out (grown_trans (World.grownBy_alloc _ _ _) (grown_drewN _ _))⟩
        have hyes := HT.out.2 ⟨by omega, by omega, by omega⟩
        have HY := hid hyes
        clear hyes
        have k0 : decide (x.name ≤ y.name) = false := decide_eq_false hlo
        have k1 : decide (x.token < 1) = false := decide_eq_false ht1
        have k2 : decide (next ≤ x.token) = false := decide_eq_false ht2
        go_wp2
        go_quiet (fail)
        go_wp2
        go_roundw
        case rel => exact ⟨k + 1, by omega, by go_num, fun j hj => by
          rcases Nat.lt_succ_iff_lt_or_eq.1 hj with h | rfl
          · exact HJ.out j h
          · exact HY.out, grown_trans HG.out (grown_trans (World.grownBy_alloc _ _ _) (grown_drewN _ _)), row_of (grown_trans (World.grownBy_alloc wr _ _) (grown_drewN _ _)) HBk.out (by simp)⟩
        case measure => simp [intOf]; omega
      · obtain rfl : k = 0 := by omega
        simp only [Nat.zero_mul, Nat.add_zero] at d0 d1 d2 d3
        have HT := hid (okAt_zero (next := next) (l := l))
        generalize l.getD 0 Ls.zero = x at *
        by_cases ht1 : x.token < 1
        · have hno := HO.out (okLs_no hlt (fun h => by have := (HT.out.1 h).1; omega))
          have HNO := hid hno
          clear hno
          have k1 : decide (x.token < 1) = true := decide_eq_true ht1
          go_wp2
          go_quiet (fail)
          go_wp2
          go_ret
          exact ⟨by rw [HNO.out]; rfl, grown_trans HG.out (grown_trans (World.grownBy_alloc _ _ _) (grown_drewN _ _))⟩
        by_cases ht2 : next ≤ x.token
        · have hno := HO.out (okLs_no hlt (fun h => by have := (HT.out.1 h).2; omega))
          have HNO := hid hno
          clear hno
          have k1 : decide (x.token < 1) = false := decide_eq_false ht1
          have k2 : decide (next ≤ x.token) = true := decide_eq_true ht2
          go_wp2
          go_quiet (fail)
          go_wp2
          go_ret
          exact ⟨by rw [HNO.out]; rfl, grown_trans HG.out (grown_trans (World.grownBy_alloc _ _ _) (grown_drewN _ _))⟩
        have hyes := HT.out.2 ⟨by omega, by omega⟩
        have HY := hid hyes
        clear hyes
        have k1 : decide (x.token < 1) = false := decide_eq_false ht1
        have k2 : decide (next ≤ x.token) = false := decide_eq_false ht2
        go_wp2
        go_quiet (fail)
        go_wp2
        go_roundw
        case rel => exact ⟨0 + 1, by omega, by go_num, fun j hj => by
          rcases Nat.lt_succ_iff_lt_or_eq.1 hj with h | rfl
          · exact HJ.out j h
          · exact HY.out, grown_trans HG.out (grown_trans (World.grownBy_alloc _ _ _) (grown_drewN _ _)), row_of (grown_trans (World.grownBy_alloc wr _ _) (grown_drewN _ _)) HBk.out (by simp)⟩
        case measure => simp [intOf]; omega
    · obtain rfl : k = l.length := by omega
      have hall := okLs_of HJ.out
      have HE := hid (show ok = (decide (1 ≤ next) && decide (next ≤ 1099511627776) && decide (l.length ≤ 64)) by rw [OK.out, hall, Bool.and_true])
      clear hall
      by_cases h1 : next < 1
      · have hko := HE.out.trans (show _ = false by simp; omega)
        have HF := hid hko
        clear hko
        go_wp2
        go_ret
        exact ⟨by rw [HF.out]; rfl, HG.out⟩
      by_cases h2 : 1099511627776 < next
      · have hko := HE.out.trans (show _ = false by simp; omega)
        have HF := hid hko
        clear hko
        go_wp2
        go_ret
        exact ⟨by rw [HF.out]; rfl, HG.out⟩
      by_cases h3 : 64 < l.length
      · have hko := HE.out.trans (show _ = false by simp; omega)
        have HF := hid hko
        clear hko
        have k3 : decide ((l.length : Int) ≤ 64) = false := decide_eq_false (by omega)
        go_wp2
        go_ret
        exact ⟨by rw [HF.out]; rfl, HG.out⟩
      have hko := HE.out.trans (show _ = true by simp; omega)
      have HF := hid hko
      clear hko
      have k3 : decide ((l.length : Int) ≤ 64) = true := decide_eq_true (by omega)
      go_wp2
      go_ret
      exact ⟨by rw [HF.out]; rfl, HG.out⟩
end Go.Proofs.Ytafippjpaakonaa
