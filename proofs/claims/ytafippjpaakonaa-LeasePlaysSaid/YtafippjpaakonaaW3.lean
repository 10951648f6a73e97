/- Leases: sort.Search, search. -/
import Derived.Test.YtafippjpaakonaaW2
namespace Go.Proofs.Ytafippjpaakonaa
open Go.RowKit
set_option linter.unusedSimpArgs false
set_option linter.unusedVariables false

set_option maxRecDepth 100000 in
set_option maxHeartbeats 1000000 in
theorem sortSearch_walk (n : Nat) (p : Nat → Bool) (C D : Value) (w : World) (hn : n ≤ 1099511627776)
    (hF : ∀ (w' : World) (i : Nat), w.grownBy w' none → i < n → Calls Try.prog 44 #[.int .i64 i, C, D] w' fun e w'' => e = .returned (.bool (p i)) ∧ w'.grownBy w'' none) :
    Calls Try.prog 43 #[.int .i64 n, .func (.func 44) #[] #[C, D]] w fun e w' => (∃ k : Nat, k ≤ n ∧ e = .returned (.int .i64 k) ∧ (k = 0 ∨ p (k - 1) = false) ∧ (k = n ∨ p k = true)) ∧ w.grownBy w' none := by
  have HF := hid hF
  clear hF
  go_enter Try.func43, Try.ntmps43
  go_wp2
  go_loopw [5, 6] (fun i j wr => ∃ a b : Nat, a ≤ b ∧ b ≤ n ∧ i = .int .i64 a ∧ j = .int .i64 b ∧ (a = 0 ∨ p (a - 1) = false) ∧ (b = n ∨ p b = true) ∧ w.grownBy wr none) (fun i j _ => (intOf j - intOf i).toNat)
  case atStart => exact ⟨0, n, by omega, by omega, rfl, rfl, .inl rfl, .inl rfl, World.grownBy.refl _ _⟩
  case round =>
    obtain ⟨a, b, hab, hbn, rfl, rfl, ha, hb, hg⟩ := hrel
    have HA := hid ha
    have HB := hid hb
    have HG := hid hg
    clear ha hb hg
    by_cases hlt : a < b
    · have hc := HF.out wr ((a + b) / 2) HG.out (by omega)
      rw [show (((a + b) / 2 : Nat) : Int) = ((a : Int) + (b : Int)) / 2 by omega] at hc
      generalize hm : (a + b) / 2 = m at hc
      have hm1 : a ≤ m := by omega
      have hm2 : m < b := by omega
      have hm3 : ((a : Int) + (b : Int)) / 2 = (m : Int) := by omega
      rw [hm3] at hc
      have HM := hid hm3
      have HC := hid hc
      clear hc hm hm3
      go_wp2_with fail
      rw [HM.out]
      refine HC.out.mono ?_
      rintro e w2 ⟨rfl, hg2⟩
      have HG2 := hid (grown_trans HG.out hg2)
      clear hg2
      cases hp : p m with
      | false =>
        have HP := hid hp
        clear hp
        go_wp2
        go_roundw
        case rel => exact ⟨m + 1, b, by omega, hbn, by go_num, rfl, .inr (by simpa using HP.out), HB.out, HG2.out⟩
        case measure => simp [intOf]; omega
      | true =>
        have HP := hid hp
        clear hp
        go_wp2
        go_roundw
        case rel => exact ⟨a, m, by omega, by omega, rfl, rfl, HA.out, .inr HP.out, HG2.out⟩
        case measure => simp [intOf]; omega
    · obtain rfl : a = b := by omega
      go_wp2
      go_ret
      exact ⟨⟨a, hbn, rfl, HA.out, HB.out⟩, HG.out⟩

theorem lo_place {l : List Ls} (h : Asc l) (n : Int) (k : Nat) (hk : k ≤ l.length) (h1 : k = 0 ∨ decide (n ≤ (l.getD (k - 1) Ls.zero).name) = false) (h2 : k = l.length ∨ decide (n ≤ (l.getD k Ls.zero).name) = true) : k = (lo n l).length := by
  have hs := h.split n
  have hlen := h.len n
  have key : ∀ i, i < l.length → ((l.getD i Ls.zero).name < n ↔ i < (lo n l).length) := by
    intro i hi
    have e : l.getD i Ls.zero = (lo n l ++ ((look n l).toList ++ Go.Proofs.Ytafippjpaakonaa.hi n l)).getD i Ls.zero := congrArg (fun x => x.getD i Ls.zero) hs
    by_cases hil : i < (lo n l).length
    · rw [e, List.getD_eq_getElem?_getD, List.getElem?_append_left hil, List.getElem?_eq_getElem hil]
      have := (mem_lo.1 (List.getElem_mem hil)).2
      simp only [Option.getD_some]
      exact ⟨fun _ => hil, fun _ => this⟩
    · have hi2 : i - (lo n l).length < ((look n l).toList ++ Go.Proofs.Ytafippjpaakonaa.hi n l).length := by simp only [List.length_append]; omega
      rw [e, List.getD_eq_getElem?_getD, List.getElem?_append_right (by omega), List.getElem?_eq_getElem hi2]
      simp only [Option.getD_some]
      have hm : ((look n l).toList ++ Go.Proofs.Ytafippjpaakonaa.hi n l)[i - (lo n l).length] ∈ (look n l).toList ++ Go.Proofs.Ytafippjpaakonaa.hi n l := List.getElem_mem hi2
      have : n ≤ (((look n l).toList ++ Go.Proofs.Ytafippjpaakonaa.hi n l)[i - (lo n l).length]).name := by
        rcases List.mem_append.1 hm with hm | hm
        · have := (look_some (Option.mem_toList.1 hm)).1; omega
        · have := (mem_hi.1 hm).2; omega
      exact ⟨fun h => absurd h (by omega), fun h => absurd h hil⟩
  rcases Nat.lt_trichotomy k (lo n l).length with hlt | heq | hgt
  · exfalso
    rcases h2 with h2 | h2
    · omega
    · have := (key k (by omega)).2 hlt
      have h3 := of_decide_eq_true h2
      omega
  · exact heq
  · exfalso
    rcases h1 with h1 | h1
    · omega
    · have h3 := (key (k - 1) (by omega)).1 (by simpa using h1)
      omega
theorem at_place {l : List Ls} (h : Asc l) (n : Int) (hk : (lo n l).length < l.length) : ((l.getD (lo n l).length Ls.zero).name = n ↔ (look n l).isSome = true) ∧ (∀ x, look n l = some x → l.getD (lo n l).length Ls.zero = x) := by
  have hs := h.split n
  have e : l.getD (lo n l).length Ls.zero = ((look n l).toList ++ Go.Proofs.Ytafippjpaakonaa.hi n l).getD 0 Ls.zero := by
    have := congrArg (fun x => x.getD (lo n l).length Ls.zero) hs
    rw [this, List.getD_eq_getElem?_getD, List.getElem?_append_right (Nat.le_refl _), Nat.sub_self, List.getD_eq_getElem?_getD]
  have hlen := h.len n
  rw [e]
  cases hl : look n l with
  | some x => exact ⟨by simp [(look_some hl).1], fun y hy => by simpa using hy⟩
  | none =>
    rw [hl] at hlen
    simp only [Option.toList_none, List.length_nil, Nat.add_zero] at hlen
    have h0 : 0 < (Go.Proofs.Ytafippjpaakonaa.hi n l).length := by omega
    have : n < (Go.Proofs.Ytafippjpaakonaa.hi n l)[0].name := (mem_hi.1 (List.getElem_mem h0)).2
    refine ⟨?_, fun x hx => by cases hx⟩
    simp [List.getD_eq_getElem?_getD, List.getElem?_eq_getElem h0]
    omega
theorem lo_end {l : List Ls} (h : Asc l) (n : Int) (hk : ¬ (lo n l).length < l.length) : look n l = none := by
  have hlen := h.len n
  cases hl : look n l with
  | none => rfl
  | some x => rw [hl] at hlen; simp at hlen; omega

set_option maxRecDepth 100000 in
set_option maxHeartbeats 1000000 in
theorem search_walk (l : List Ls) (next n : Int) (s : Value) (w : World) (hR : Rd w s l) (hA : Asc l) (hn : l.length ≤ 1000000) :
    Calls Try.prog 27 #[tval next s, .int .i64 n] w fun e w' => e = .returned (.tuple #[.int .i64 ((lo n l).length : Nat), .bool (look n l).isSome]) ∧ w.grownBy w' none := by
  obtain ⟨ao, cap, rfl, hc1, hc2⟩ := Sl.shape hR
  have HR := hid hR
  have HA := hid hA
  clear hR hA
  unfold tval
  have g2 : w.grownBy ((w.alloc (.cells #[.int .i64 next, .slice ao l.length cap] 24)).alloc (.cells #[.int .i64 n] 3)) none := grown_trans (World.grownBy_alloc _ _ _) (World.grownBy_alloc _ _ _)
  have hb0 : ((w.alloc (.cells #[.int .i64 next, .slice ao l.length cap] 24)).alloc (.cells #[.int .i64 n] 3)).heap[w.heap.size]? = some (.cells #[.int .i64 next, .slice ao l.length cap] 24 (0, 0)) := by rw [heap_past (by simp <;> omega), heap_at rfl]
  have hb1 : ((w.alloc (.cells #[.int .i64 next, .slice ao l.length cap] 24)).alloc (.cells #[.int .i64 n] 3)).heap[w.heap.size + 1]? = some (.cells #[.int .i64 n] 3 (0, 0)) := by rw [heap_at (by simp <;> omega)]
  go_enter Try.func27, Try.ntmps27
  go_wp2_with fail
  generalize (w.alloc (.cells #[.int .i64 next, .slice ao l.length cap] 24)).alloc (.cells #[.int .i64 n] 3) = W at *
  refine (sortSearch_walk l.length (fun i => decide (n ≤ (l.getD i Ls.zero).name)) (.pointer (some ⟨w.heap.size, 0, none⟩)) (.pointer (some ⟨w.heap.size + 1, 0, none⟩)) W (by omega) (fun w' i hg hi => ?_)).mono ?_
  · have := searchFn_walk l i next n ao cap w.heap.size (w.heap.size + 1) w' hi (Sl.kn (Sl.kn HR.out g2) hg) (row_of hg hb0 (by simp)) (by rw [cell_of_row _ _ _ _ _ _ (row_of hg hb1 (by simp))]; rfl)
    have e : (l.getD i Ls.zero).name = l[i].name := by rw [List.getD_eq_getElem?_getD, List.getElem?_eq_getElem hi]; rfl
    rw [e]
    exact this
  rintro e w2 ⟨⟨k, hk, rfl, h1, h2⟩, hg⟩
  obtain rfl := lo_place HA.out n k hk h1 h2
  have G := hid (grown_trans g2 hg)
  have c1 : w2.cell? ⟨w.heap.size, 1, none⟩ = some (.slice ao l.length cap) := by rw [cell_of_row _ _ _ _ _ _ (row_of hg hb0 (by simp))]; rfl
  have c2 : w2.cell? ⟨w.heap.size + 1, 0, none⟩ = some (.int .i64 n) := by rw [cell_of_row _ _ _ _ _ _ (row_of hg hb1 (by simp))]; rfl
  clear h1 h2 g2 hb0 hb1 hg
  by_cases hlt : (lo n l).length < l.length
  · obtain ⟨b, off, rfl, _, _, hr⟩ := Rd.cell (Sl.kn HR.out G.out) (lo n l).length hlt
    have c3 : w2.cell? ⟨b, off + (lo n l).length * 4, none⟩ = some (.int .i64 l[(lo n l).length].name) := hr 0 _ rfl
    have hp := (at_place HA.out n hlt).1
    have e : l.getD (lo n l).length Ls.zero = l[(lo n l).length] := by rw [List.getD_eq_getElem?_getD, List.getElem?_eq_getElem hlt]; rfl
    rw [e] at hp
    generalize l[(lo n l).length].name = m at *
    have HP := hid (show (m == n) = (look n l).isSome by rw [Bool.eq_iff_iff, beq_iff_eq]; exact hp)
    clear hp e hr
    generalize hkk : (lo n l).length = k at *
    have HK := hid hkk
    clear hkk
    have hi1 : (0 : Int) ≤ (k : Int) := by omega
    have hi2 : (k : Int) < (l.length : Int) := by omega
    have hi3 : decide (k < l.length) = true := by simpa using hlt
    go_wp2
    go_quiet (fail)
    go_wp2
    go_ret2
    exact ⟨by rw [← HP.out, HK.out]; rfl, grown_trans G.out (grown_drewN _ _)⟩
  · have hi3 : decide ((lo n l).length < l.length) = false := by simpa using hlt
    have hl : (look n l).isSome = false := by rw [lo_end HA.out n hlt]; rfl
    have HL := hid hl
    clear hl
    generalize hkk : (lo n l).length = k at *
    have HK := hid hkk
    clear hkk
    go_wp2
    go_quiet (fail)
    go_wp2
    go_ret2
    exact ⟨by rw [HL.out, HK.out]; rfl, grown_trans G.out (grown_drewN _ _)⟩
end Go.Proofs.Ytafippjpaakonaa
