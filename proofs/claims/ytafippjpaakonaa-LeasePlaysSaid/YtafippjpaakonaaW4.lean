/- Leases: Valid of the program and of the reference. -/
import Derived.Test.YtafippjpaakonaaW3
namespace Go.Proofs.Ytafippjpaakonaa
open Go.RowKit
set_option linter.unusedSimpArgs false
set_option linter.unusedVariables false

/-- the test at one place -/
def okAt (next : Int) (l : List Ls) (k : Nat) : Prop := (∀ j, k = j + 1 → (l.getD j Ls.zero).name < (l.getD k Ls.zero).name) ∧ 1 ≤ (l.getD k Ls.zero).token ∧ (l.getD k Ls.zero).token < next
theorem okLs_of {next : Int} : ∀ {l : List Ls}, (∀ k, k < l.length → okAt next l k) → okLs next l = true
  | [], _ => rfl
  | [x], h => by
    have := (h 0 (by simp)).2
    simp only [List.getD_cons_zero] at this
    simp [okLs, this.1, this.2]
  | x :: y :: l, h => by
    have h0 := (h 0 (by simp)).2
    have h1 := (h 1 (by simp)).1 0 rfl
    simp only [List.getD_cons_zero, List.getD_cons_succ] at h0 h1
    have := okLs_of (next := next) (l := y :: l) fun k hk => by
      have h2 := h (k + 1) (by simpa using hk)
      refine ⟨fun j hj => ?_, ?_⟩
      · have := h2.1 k rfl
        subst hj
        simpa using this
      · simpa using h2.2
    simp [okLs, h0.1, h0.2, h1, this]
theorem of_okLs {next : Int} : ∀ {l : List Ls}, okLs next l = true → ∀ k, k < l.length → okAt next l k
  | [], _, k, hk => by simp at hk
  | [x], h, k, hk => by
    obtain rfl : k = 0 := by simp at hk; omega
    simp [okLs] at h
    exact ⟨fun j hj => by omega, by simpa using h.1, by simpa using h.2⟩
  | x :: y :: l, h, k, hk => by
    simp [okLs] at h
    obtain ⟨⟨⟨h1, h2⟩, h3⟩, h4⟩ := h
    cases k with
    | zero => exact ⟨fun j hj => by omega, by simpa using h2, by simpa using h3⟩
    | succ k =>
      have := of_okLs h4 k (by simpa using hk)
      refine ⟨fun j hj => ?_, ?_⟩
      · obtain rfl : k = j := by omega
        cases k with
        | zero => simpa using h1
        | succ k => simpa using this.1 k rfl
      · simpa using this.2
theorem okLs_no {next : Int} {l : List Ls} {k : Nat} (hk : k < l.length) (h : ¬ okAt next l k) : okLs next l = false := by
  cases hq : okLs next l with
  | false => rfl
  | true => exact absurd (of_okLs hq k hk) h
theorem getD_of {l : List Ls} {k : Nat} (hk : k < l.length) : l.getD k Ls.zero = l[k] := by rw [List.getD_eq_getElem?_getD, List.getElem?_eq_getElem hk]; rfl

theorem okAt_pos {next : Int} {l : List Ls} {k : Nat} (hk0 : 0 < k) : okAt next l k ↔ (l.getD (k - 1) Ls.zero).name < (l.getD k Ls.zero).name ∧ 1 ≤ (l.getD k Ls.zero).token ∧ (l.getD k Ls.zero).token < next := by
  unfold okAt
  constructor
  · rintro ⟨h1, h2⟩
    exact ⟨h1 (k - 1) (by omega), h2⟩
  · rintro ⟨h1, h2⟩
    refine ⟨fun j hj => ?_, h2⟩
    obtain rfl : j = k - 1 := by omega
    exact h1
theorem okAt_zero {next : Int} {l : List Ls} : okAt next l 0 ↔ 1 ≤ (l.getD 0 Ls.zero).token ∧ (l.getD 0 Ls.zero).token < next := by
  unfold okAt
  exact ⟨fun h => h.2, fun h => ⟨fun j hj => by omega, h⟩⟩
theorem Rd.cellD {w : World} {b off cap n : Nat} {l : List Ls} (h : Rd w (.slice (some ⟨b, off, none⟩) n cap) l) (i : Nat) (hi : i < l.length) : w.rangeAt b (off + i * 4) (lcells (l.getD i Ls.zero)) := by
  obtain ⟨b', off', hb, _, _, hr⟩ := Rd.cell h i hi
  simp only [Option.some.injEq, Addr.mk.injEq, and_true] at hb
  obtain ⟨rfl, rfl⟩ := hb
  rw [getD_of hi]
  exact hr
theorem Rd.base {w : World} {ao : Option Addr} {cap n : Nat} {l : List Ls} (h : Rd w (.slice ao n cap) l) (hl : 0 < l.length) : ∃ b off, ao = some ⟨b, off, none⟩ := by
  obtain ⟨b, off, hb, _⟩ := Rd.cell h 0 hl
  exact ⟨b, off, hb⟩

set_option maxRecDepth 100000 in
set_option maxHeartbeats 2000000 in
theorem valid_walk (l : List Ls) (next : Int) (s : Value) (w : World) (hR : Rd w s l) (hn : l.length ≤ 1099511627776) :
    Calls Try.prog 16 #[tval next s] w fun e w' => e = .returned (.bool (Tb.ok ⟨next, l⟩)) ∧ w.grownBy w' none := by
  obtain ⟨ao, cap, rfl, hc1, hc2⟩ := Sl.shape hR
  have HR := hid hR
  clear hR
  unfold tval
  obtain ⟨ok, hok⟩ : ∃ ok, ok = Tb.ok ⟨next, l⟩ := ⟨_, rfl⟩
  rw [← hok]
  unfold Tb.ok Top at hok
  simp only at hok
  have OK := hid hok
  clear hok
  have ga := World.grownBy_alloc w (.cells #[.int .i64 next, .slice ao l.length cap] 24) none
  have hb0 := heap_at (w := w) (o := .cells #[.int .i64 next, .slice ao l.length cap] 24) rfl
  by_cases h1 : next < 1
  · have hko : ok = false := by rw [OK.out]; simp; omega
    have HO := hid hko
    clear hko ga hb0
    go_enter Try.func16, Try.ntmps16
    go_wp2
    go_ret
    exact ⟨by rw [HO.out]; rfl, World.grownBy_alloc _ _ _⟩
  by_cases h2 : 1099511627776 < next
  · have hko : ok = false := by rw [OK.out]; simp; omega
    have HO := hid hko
    clear hko ga hb0
    go_enter Try.func16, Try.ntmps16
    go_wp2
    go_ret
    exact ⟨by rw [HO.out]; rfl, World.grownBy_alloc _ _ _⟩
  by_cases h3 : 64 < l.length
  · have hko : ok = false := by rw [OK.out]; simp; omega
    have HO := hid hko
    clear hko ga hb0
    go_enter Try.func16, Try.ntmps16
    go_wp2
    go_ret
    exact ⟨by rw [HO.out]; rfl, World.grownBy_alloc _ _ _⟩
  have hko : ok = okLs next l := by
    rw [OK.out, decide_eq_true (show 1 ≤ next by omega), decide_eq_true (show next ≤ 1099511627776 by omega), decide_eq_true (show l.length ≤ 64 by omega)]
    rfl
  have HO := hid hko
  have GA := hid ga
  have HB := hid hb0
  clear hko ga hb0
  go_enter Try.func16, Try.ntmps16
  go_wp2
  go_loopw [22] (fun i wr => ∃ k : Nat, k ≤ l.length ∧ i = .int .i64 k ∧ (∀ j, j < k → okAt next l j) ∧ w.grownBy wr none ∧ wr.heap[w.heap.size]? = some (.cells #[.int .i64 next, .slice ao l.length cap] 24 (0, 0))) (fun i _ => l.length - (intOf i).toNat)
  case atStart => exact ⟨0, by omega, rfl, fun j hj => by omega, GA.out, HB.out⟩
  case round =>
    obtain ⟨k, hk, rfl, hj, hg, hb⟩ := hrel
    have HJ := hid hj
    have HG := hid hg
    have HBk := hid hb
    clear hj hg hb
    by_cases hlt : k < l.length
    · obtain ⟨b, off, rfl⟩ := Rd.base HR.out (by omega)
      have hr := Rd.cellD (Sl.kn HR.out HG.out) k hlt
      have c0 : wr.cell? ⟨w.heap.size, 0, none⟩ = some (.int .i64 next) := by rw [cell_of_row _ _ _ _ _ _ HBk.out]; rfl
      have c1 : wr.cell? ⟨w.heap.size, 1, none⟩ = some (.slice (some ⟨b, off, none⟩) l.length cap) := by rw [cell_of_row _ _ _ _ _ _ HBk.out]; rfl
      have d0 : wr.cell? ⟨b, off + k * 4, none⟩ = some (.int .i64 (l.getD k Ls.zero).name) := hr 0 _ rfl
      have d1 : wr.cell? ⟨b, off + k * 4 + 1, none⟩ = some (.int .i64 (l.getD k Ls.zero).holder) := hr 1 _ rfl
      have d2 : wr.cell? ⟨b, off + k * 4 + 2, none⟩ = some (.int .i64 (l.getD k Ls.zero).token) := hr 2 _ rfl
      have d3 : wr.cell? ⟨b, off + k * 4 + 3, none⟩ = some (.int .i64 (l.getD k Ls.zero).till) := hr 3 _ rfl
      have hi1 : (0 : Int) ≤ (k : Int) := by omega
      have hi2 : (k : Int) < (l.length : Int) := by omega
      have z0 := block_lt_of_cell c0
      have z1 := block_lt_of_cell d0
      clear hr
      by_cases hk0 : 0 < k
      · have hr := Rd.cellD (Sl.kn HR.out HG.out) (k - 1) (by omega)
        have e0 : wr.cell? ⟨b, off + (k - 1) * 4, none⟩ = some (.int .i64 (l.getD (k - 1) Ls.zero).name) := hr 0 _ rfl
        have HT := hid (okAt_pos (next := next) (l := l) hk0)
        have m1 : IntKind.i64.wrap ((k : Int) - 1) = ((k - 1 : Nat) : Int) := by rw [IntKind.wrap_i64]; omega
        have m2 : (0 : Int) ≤ ((k - 1 : Nat) : Int) := by omega
        have m3 : ((k - 1 : Nat) : Int) < (l.length : Int) := by omega
        clear hr
        generalize l.getD (k - 1) Ls.zero = y at *
        generalize l.getD k Ls.zero = x at *
        generalize hjk : k - 1 = j at *
        have HJK := hid hjk
        clear hjk
        have hd0 : decide (0 < k) = true := decide_eq_true hk0
        by_cases hlo : x.name ≤ y.name
        · have hno := okLs_no hlt (fun h => by have := (HT.out.1 h).1; omega)
          have HNO := hid hno
          clear hno
          go_wp2
          go_quiet (fail)
          go_wp2
          go_ret
          exact ⟨by rw [HO.out, HNO.out]; rfl, grown_trans HG.out (grown_trans (World.grownBy_alloc _ _ _) (grown_drewN _ _))⟩
        by_cases ht1 : x.token < 1
        · have hno := okLs_no hlt (fun h => by have := (HT.out.1 h).2.1; omega)
          have HNO := hid hno
          clear hno
          go_wp2
          go_quiet (fail)
          go_wp2
          go_ret
          exact ⟨by rw [HO.out, HNO.out]; rfl, grown_trans HG.out (grown_trans (World.grownBy_alloc _ _ _) (grown_drewN _ _))⟩
        by_cases ht2 : next ≤ x.token
        · have hno := okLs_no hlt (fun h => by have := (HT.out.1 h).2.2; omega)
          have HNO := hid hno
          clear hno
          go_wp2
          go_quiet (fail)
          go_wp2
          go_ret
          exact ⟨by rw [HO.out, HNO.out]; rfl, grown_trans HG.out (grown_trans (World.grownBy_alloc _ _ _) (grown_drewN _ _))⟩
        have hyes := HT.out.2 ⟨by omega, by omega, by omega⟩
        have HY := hid hyes
        clear hyes
        go_wp2
        go_quiet (fail)
        go_wp2
        go_roundw
        case rel => exact ⟨k + 1, by omega, by go_num, fun j hj => by
          rcases Nat.lt_succ_iff_lt_or_eq.1 hj with h | rfl
          · exact HJ.out j h
          · exact HY.out, grown_trans HG.out (grown_trans (World.grownBy_alloc _ _ _) (grown_drewN _ _)), row_of (grown_trans (World.grownBy_alloc wr _ _) (grown_drewN _ _)) HBk.out (by simp)⟩
        case measure => simp [intOf]; omega
      · obtain rfl : k = 0 := by omega
        simp only [Nat.zero_mul, Nat.add_zero] at d0 d1 d2 d3
        have HT := hid (okAt_zero (next := next) (l := l))
        generalize l.getD 0 Ls.zero = x at *
        by_cases ht1 : x.token < 1
        · have hno := okLs_no hlt (fun h => by have := (HT.out.1 h).1; omega)
          have HNO := hid hno
          clear hno
          go_wp2
          go_quiet (fail)
          go_wp2
          go_ret
          exact ⟨by rw [HO.out, HNO.out]; rfl, grown_trans HG.out (grown_trans (World.grownBy_alloc _ _ _) (grown_drewN _ _))⟩
        by_cases ht2 : next ≤ x.token
        · have hno := okLs_no hlt (fun h => by have := (HT.out.1 h).2; omega)
          have HNO := hid hno
          clear hno
          go_wp2
          go_quiet (fail)
          go_wp2
          go_ret
          exact ⟨by rw [HO.out, HNO.out]; rfl, grown_trans HG.out (grown_trans (World.grownBy_alloc _ _ _) (grown_drewN _ _))⟩
        have hyes := HT.out.2 ⟨by omega, by omega⟩
        have HY := hid hyes
        clear hyes
        go_wp2
        go_quiet (fail)
        go_wp2
        go_roundw
        case rel => exact ⟨0 + 1, by omega, by go_num, fun j hj => by
          rcases Nat.lt_succ_iff_lt_or_eq.1 hj with h | rfl
          · exact HJ.out j h
          · exact HY.out, grown_trans HG.out (grown_trans (World.grownBy_alloc _ _ _) (grown_drewN _ _)), row_of (grown_trans (World.grownBy_alloc wr _ _) (grown_drewN _ _)) HBk.out (by simp)⟩
        case measure => simp [intOf]; omega
    · obtain rfl : k = l.length := by omega
      have hall := okLs_of HJ.out
      have HALL := hid hall
      clear hall
      go_wp2
      go_ret
      exact ⟨by rw [HO.out, HALL.out]; rfl, HG.out⟩
end Go.Proofs.Ytafippjpaakonaa
