/- Leases: the reference's without. -/
import Derived.Test.YtafippjpaakonaaW16
namespace Go.Proofs.Ytafippjpaakonaa
open Go.RowKit
set_option linter.unusedSimpArgs false
set_option linter.unusedVariables false

/-- names other than one -/
def other (n : Int) (x : Ls) : Bool := decide (x.name ≠ n)
theorem take_snoc {l : List Ls} {k : Nat} (hk : k < l.length) : l.take (k + 1) = l.take k ++ [l.getD k Ls.zero] := by
  rw [getD_of hk, List.take_succ_eq_append_getElem hk]
theorem filt_yes {p : Ls → Bool} {l : List Ls} {k : Nat} (hk : k < l.length) (h : p (l.getD k Ls.zero) = true) : (l.take (k + 1)).filter p = (l.take k).filter p ++ [l.getD k Ls.zero] := by
  rw [take_snoc hk, List.filter_append, List.filter_cons, if_pos h]; rfl
theorem filt_no {p : Ls → Bool} {l : List Ls} {k : Nat} (hk : k < l.length) (h : p (l.getD k Ls.zero) = false) : (l.take (k + 1)).filter p = (l.take k).filter p := by
  rw [take_snoc hk, List.filter_append, List.filter_cons, h]; simp
theorem filt_len (p : Ls → Bool) (l : List Ls) (k : Nat) : ((l.take k).filter p).length ≤ l.length := Nat.le_trans (List.length_filter_le _ _) (by rw [List.length_take]; omega)
set_option maxRecDepth 100000 in
set_option maxHeartbeats 1000000 in
theorem without_walk (l : List Ls) (n : Int) (s : Value) (w : World) (hR : Rd w s l) (hn : l.length ≤ 1000000) :
    Calls Try.prog 51 #[s, .int .i64 n] w fun e w' => ∃ v, e = .returned v ∧ Own w' 38 4 v (l.filter (other n)).length ((l.filter (other n)).flatMap lcells) ∧ Fresh w w' v := by
  obtain ⟨ao, cap, rfl, hc1, hc2⟩ := Sl.shape hR
  have HR := hid hR
  clear hR
  go_enter Try.func51, Try.ntmps51
  go_wp2
  go_loopw [5, 6] (fun b i wr => ∃ (k m : Nat) (ys : List Ls), k ≤ l.length ∧ i = .int .i64 k ∧ ys = (l.take k).filter (other n) ∧ m = ys.length ∧ Own wr 38 4 b m (ys.flatMap lcells) ∧ Fresh w wr b) (fun _ i _ => l.length - (intOf i).toNat)
  case atStart => exact ⟨0, 0, [], Nat.zero_le _, rfl, rfl, rfl, Own.nil _ _ _, Step.refl _ _⟩
  case round =>
    obtain ⟨k, m, ys, hk, rfl, hys, hm, hown, hst⟩ := hrel
    have OW := hid hown
    have ST := hid hst
    have HY := hid hys
    have HM := hid hm
    have hm1 : m ≤ 1000000 := by rw [HM.out, HY.out]; exact Nat.le_trans (filt_len _ _ _) hn
    clear hown hst hys hm
    by_cases hlt : k < l.length
    · obtain ⟨b, off, rfl⟩ := Rd.base HR.out (by omega)
      have hr := Rd.cellD (Sl.kn HR.out (Step.none ST.out)) k hlt
      have d0 : wr.cell? ⟨b, off + k * 4, none⟩ = some (.int .i64 (l.getD k Ls.zero).name) := hr 0 _ rfl
      have d1 : wr.cell? ⟨b, off + k * 4 + 1, none⟩ = some (.int .i64 (l.getD k Ls.zero).holder) := hr 1 _ rfl
      have d2 : wr.cell? ⟨b, off + k * 4 + 2, none⟩ = some (.int .i64 (l.getD k Ls.zero).token) := hr 2 _ rfl
      have d3 : wr.cell? ⟨b, off + k * 4 + 3, none⟩ = some (.int .i64 (l.getD k Ls.zero).till) := hr 3 _ rfl
      have hi1 : (0 : Int) ≤ (k : Int) := by omega
      have hi2 : (k : Int) < (l.length : Int) := by omega
      clear hr
      by_cases he : (l.getD k Ls.zero).name = n
      · have HF := hid (filt_no (p := other n) hlt (decide_eq_false (fun h => h he)))
        rw [he] at d0
        clear he
        go_wp2
        go_roundw
        case rel => exact ⟨k + 1, m, ys, by omega, by go_num, by rw [HF.out]; exact HY.out, HM.out, OW.out, ST.out⟩
        case measure => simp [intOf]; omega
      · have HF := hid (filt_yes (p := other n) hlt (decide_eq_true he))
        generalize l.getD k Ls.zero = x at *
        go_wp2_with (first
          | (at_builtin; go_must (refine wpList_pushH leaseT rfl _ _ rfl _ _ _ rfl OW.out (lcells x) 1 _ rfl rfl rfl rfl (by omega) ?_; intro v5 w5 hown5 hst5))
          | fail)
        go_roundw
        case rel => exact ⟨k + 1, m + 1, ys ++ [x], by omega, by go_num, by rw [HF.out, HY.out], by rw [List.length_append, HM.out]; rfl, by rw [List.flatMap_append]; simpa using hown5, ST.out.trans hst5⟩
        case measure => simp [intOf]; omega
    · obtain rfl : k = l.length := by omega
      go_wp2
      go_ret
      have e : l.filter (other n) = ys := by rw [HY.out, List.take_length]
      exact ⟨_, rfl, by rw [e, ← HM.out]; exact OW.out, ST.out⟩
end Go.Proofs.Ytafippjpaakonaa
