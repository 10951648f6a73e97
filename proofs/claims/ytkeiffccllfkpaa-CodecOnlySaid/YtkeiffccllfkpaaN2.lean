/- SameRow; lists of equal things compared. -/
import Derived.Test.YtkeiffccllfkpaaN1
namespace Go.Proofs.Ytkeiffccllfkpaa
open Go.RowKit

deriving instance DecidableEq for V
set_option maxRecDepth 100000 in
set_option maxHeartbeats 1000000 in
theorem toList_inj {a b : ByteArray} (h : a.toList = b.toList) : a = b := by
  rw [ByteArray.toList_eq, ByteArray.toList_eq] at h
  exact ByteArray.ext (Array.ext' h)
set_option maxRecDepth 100000 in
set_option maxHeartbeats 1000000 in
theorem sameRow22_walk (a b : Value) (l m : List V) (w : World) (ha : Sl w 3 a l.length (l.flatMap vcells)) (hb : Sl w 3 b m.length (m.flatMap vcells)) :
    Calls Try.prog 121 #[a, b] w fun e w' => e = .returned (.bool (decide (l = m))) ∧ w.grownBy w' none := by
  obtain ⟨ao, cap, rfl, hnc, hcm⟩ := ha.shape
  obtain ⟨bo, bcap, rfl, hnc2, hcm2⟩ := hb.shape
  have HA := hid ha
  have HB := hid hb
  clear ha hb
  go_enter Try.func121, Try.ntmps121
  by_cases hlen : l.length = m.length
  · have e0 : ((l.length : Int) != m.length) = false := by simp; omega
    have HLEN := hid hlen
    clear hlen
    go_wp2
    go_loopw [5] (fun i wr => ∃ k : Nat, k ≤ l.length ∧ i = .int .i64 k ∧ l.take k = m.take k ∧ w.grownBy wr none) (fun i _ => l.length - (intOf i).toNat)
    case atStart => exact ⟨0, Nat.zero_le _, rfl, rfl, World.grownBy.refl _ _⟩
    case round =>
      obtain ⟨k, hk, rfl, ht, hg⟩ := hrel
      by_cases hlt : k < l.length
      · have hm : k < m.length := by have := HLEN.out; omega
        obtain ⟨blk, off, rfl, hc⟩ := (HA.out.kept hg (by cases (Value.slice ao l.length cap).ownBlock <;> simp)).elem (fun x _ => rfl) (by decide) k hlt
        obtain ⟨blk2, off2, rfl, hc2⟩ := (HB.out.kept hg (by cases (Value.slice bo m.length bcap).ownBlock <;> simp)).elem (fun x _ => rfl) (by decide) k hm
        have h0 : wr.cell? ⟨blk, off + k * 3, none⟩ = some (.int .i64 l[k].kind) := hc 0 _ rfl
        have h1 : wr.cell? ⟨blk, off + k * 3 + 1, none⟩ = some (.int .i64 l[k].int) := hc 1 _ rfl
        have h2 : wr.cell? ⟨blk, off + k * 3 + 2, none⟩ = some (.string l[k].text) := hc 2 _ rfl
        have g0 : wr.cell? ⟨blk2, off2 + k * 3, none⟩ = some (.int .i64 m[k].kind) := hc2 0 _ rfl
        have g1 : wr.cell? ⟨blk2, off2 + k * 3 + 1, none⟩ = some (.int .i64 m[k].int) := hc2 1 _ rfl
        have g2 : wr.cell? ⟨blk2, off2 + k * 3 + 2, none⟩ = some (.string m[k].text) := hc2 2 _ rfl
        have HT := hid (take_succ_eq k hlt hm ht)
        have HN := hid (take_eq_of HLEN.out k hlt hm ht)
        have HG := hid hg
        generalize l[k] = x at *
        generalize m[k] = y at *
        obtain ⟨xt, xc, xs⟩ := x
        obtain ⟨yt, yc, ys⟩ := y
        clear hc hc2 hg
        simp only at *
        by_cases q : (⟨xt, xc, xs⟩ : V) = ⟨yt, yc, ys⟩
        · cases q
          go_wp2
          go_region
          go_wp2
          go_roundw
          case rel => exact ⟨k + 1, by omega, by go_num, HT.out (by simp), grown_trans HG.out (grown_drew wr)⟩
          case measure => simp [intOf]; omega
        · have hlm : (decide (l = m)) = false := decide_eq_false (HN.out q)
          have q2 : xt = yt → xc = yc → xs = ys → False := fun h1 h2 h3 => q (by subst h1 h2 h3; rfl)
          have HQ := hid hlm
          clear q hlm
          by_cases q1 : xt = yt
          · by_cases q3 : xc = yc
            · by_cases q4 : xs = ys
              · exact (q2 q1 q3 q4).elim
              · have q5 : ¬ xs.toList = ys.toList := fun e => q4 (toList_inj e)
                clear q2
                go_wp2
                go_region
                go_wp2
                go_ret
                exact ⟨by rw [HQ.out]; rfl, grown_trans HG.out (grown_drew wr)⟩
            · clear q2
              go_wp2
              go_region
              go_wp2
              go_ret
              exact ⟨by rw [HQ.out]; rfl, grown_trans HG.out (grown_drew wr)⟩
          · clear q2
            go_wp2
            go_region
            go_wp2
            go_ret
            exact ⟨by rw [HQ.out]; rfl, grown_trans HG.out (grown_drew wr)⟩
      · obtain rfl : k = l.length := by omega
        have hlm : (decide (l = m)) = true := decide_eq_true (by rw [List.take_length, List.take_of_length_le (by have := HLEN.out; omega)] at ht; exact ht)
        have HQ := hid hlm
        have HG := hid hg
        clear hlm hg ht
        go_wp2
        go_ret
        exact ⟨by rw [HQ.out]; rfl, HG.out⟩
  · have e0 : ((l.length : Int) != m.length) = true := by simp; omega
    have hlm : (decide (l = m)) = false := decide_eq_false (fun e => hlen (by rw [e]))
    have HQ := hid hlm
    clear hlm
    go_wp2
    go_ret
    exact ⟨by rw [HQ.out]; rfl, World.grownBy.refl _ _⟩
set_option maxRecDepth 100000 in
theorem sameRow_walk (a b : Value) (l m : List V) (w : World) (ha : Sl w 3 a l.length (l.flatMap vcells)) (hb : Sl w 3 b m.length (m.flatMap vcells)) :
    Calls Try.prog 45 #[a, b] w fun e w' => e = .returned (.bool (decide (l = m))) ∧ w.grownBy w' none := by
  obtain ⟨ao, cap, rfl, hnc, hcm⟩ := ha.shape
  obtain ⟨bo, bcap, rfl, hnc2, hcm2⟩ := hb.shape
  have HA := hid ha
  have HB := hid hb
  clear ha hb
  go_enter Try.func45, Try.ntmps45
  go_wp2_with fail
  refine (sameRow22_walk _ _ l m w HA.out HB.out).mono ?_
  rintro e w1 ⟨rfl, hg⟩
  go_wp2
  go_ret
  exact ⟨rfl, hg⟩

set_option maxRecDepth 100000 in
theorem short_walk (s : Value) (n : Nat) (xs : List Value) (w : World) (hs : Sl w 3 s n xs) : Calls Try.prog 37 #[s] w fun e w' => e = .returned (.bool (decide (n ≤ 16))) ∧ w = w' := by
  obtain ⟨ao, cap, rfl, hnc, hcm⟩ := hs.shape
  go_enter Try.func37, Try.ntmps37
  by_cases h : n ≤ 16
  all_goals
    go_wp2
    go_ret
    exact ⟨congrArg (fun b => Ending.returned (.bool b)) (by rw [Bool.eq_iff_iff]; simp; omega), rfl⟩
/-- equal lists of integers -/
theorem sameInts_walk (a b : Value) (l : List Int) (w : World) (ha : Sl w 1 a l.length (l.map (Value.int .i64))) (hb : Sl w 1 b l.length (l.map (Value.int .i64))) :
    Calls Try.prog 186 #[a, b] w fun e w' => e = .returned (.bool true) ∧ w.grownBy w' none := by
  obtain ⟨ao, cap, rfl, hnc, hcm⟩ := ha.shape
  obtain ⟨bo, bcap, rfl, hnc2, hcm2⟩ := hb.shape
  have HA := hid ha
  have HB := hid hb
  clear ha hb
  go_enter Try.func186, Try.ntmps186
  go_wp2
  go_loopw [5] (fun i wr => ∃ k : Nat, k ≤ l.length ∧ i = .int .i64 k ∧ w.grownBy wr none) (fun i _ => l.length - (intOf i).toNat)
  case atStart => exact ⟨0, Nat.zero_le _, rfl, World.grownBy.refl _ _⟩
  case round =>
    obtain ⟨k, hk, rfl, hg⟩ := hrel
    by_cases hlt : k < l.length
    · obtain ⟨blk, off, rfl, hc⟩ := (HA.out.kept hg (by cases (Value.slice ao l.length cap).ownBlock <;> simp)).at k (by simpa using hlt)
      obtain ⟨blk2, off2, rfl, hc2⟩ := (HB.out.kept hg (by cases (Value.slice bo l.length bcap).ownBlock <;> simp)).at k (by simpa using hlt)
      have h0 : wr.cell? ⟨blk, off + k, none⟩ = some (.int .i64 l[k]) := by rw [hc k (by simpa using hlt), List.getElem_map]
      have g0 : wr.cell? ⟨blk2, off2 + k, none⟩ = some (.int .i64 l[k]) := by rw [hc2 k (by simpa using hlt), List.getElem_map]
      have HG := hid hg
      generalize l[k] = x at *
      clear hc hc2 hg
      go_wp2
      go_region
      go_wp2
      go_roundw
      case rel => exact ⟨k + 1, by omega, by go_num, grown_trans HG.out (grown_drew wr)⟩
      case measure => simp [intOf]; omega
    · obtain rfl : k = l.length := by omega
      have HG := hid hg
      clear hg
      go_wp2
      go_ret
      exact ⟨rfl, HG.out⟩

set_option maxRecDepth 100000 in
theorem recAValue_walk (w : World) : CallsD Try.prog 116 #[] .returning w fun e u' w' => e = .returned (.tuple #[]) ∧ u' = .returning ∧ w' = w := by
  refine callsD_of_wpS Try.func116 rfl fun c₀ cs hu => ?_
  apply wpS_region
  simp [wpOpsS, go_sem, recoverD, hu, Try.ntmps116]
  cases c₀
  simp_all [bodyPostS, results, Try.results116]
theorem encV_pos (x : V) : 0 < (encV x).length := by
  unfold encV encC
  have := enc_pos x.clean.kind
  rw [List.length_append]; omega
set_option maxRecDepth 100000 in
theorem appendValue_walk (v : Value) (x : V) (xs : List Nat) (w : World) (hv : Sl w 1 v xs.length (bv xs)) (hvb : Lo v w.heap.size) (hl : xs.length + 100 ≤ 1099511627776) :
    Calls Try.prog 40 #[v, vval x] w fun e w' => ∃ v', e = .returned v' ∧ Own w' 5 1 v' (xs ++ encV x).length (bv (xs ++ encV x)) ∧ Fresh w w' v' := by
  have hep := encV_pos x
  have hel := encV_len x
  have HAp := hid (cell_app nilS x [] w (Own.nil _ _ _) (by simp))
  unfold vval at *
  go_enter_defers Try.func40, Try.ntmps40
  go_wp2_with fail
  have ga := World.grownBy_alloc w (.cells #[.int .i64 x.kind, .int .i64 x.int, .string x.text] 67) none
  refine (cell_app nilS x [] _ (Own.nil _ _ _) (by simp)).mono ?_
  rintro e w1 ⟨v1, rfl, hown1, hg1⟩
  rw [List.nil_append] at hown1
  have g01 := grown_trans ga hg1.1
  have hv1 := hv.below (none_below g01) hvb
  go_wp2_with fail
  refine (extend_walk v v1 xs (encV x) _ hv1 (Sl.of_own hown1) hep (by omega)).mono ?_
  rintro e w2 ⟨v2, rfl, hown2, hg2⟩
  go_wp2
  refine leaves_cons (f := 116) (args := #[]) (by simp) (by simp [go_sem]) ?_
  refine (recAValue_walk _).mono ?_
  rintro e u' w'' ⟨rfl, rfl, rfl⟩
  exact ⟨v2, results_tmp (t := 4) rfl _ _ _, _, rfl, hown2, Step.grown g01 hg2⟩
end Go.Proofs.Ytkeiffccllfkpaa
