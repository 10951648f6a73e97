/- fail and Int of the reference's Reader: as those of the program's reader. -/
import Derived.Test.YtkeiffccllfkpaaReadInt
namespace Go.Proofs.Ytkeiffccllfkpaa
open Go.RowKit

theorem z_even {Z : Nat} (h : Z % 2 = 0) : ((Z : Int) % 2 == 1) = false := by rw [show (Z : Int) % 2 = 0 by omega]; rfl
theorem z_odd {Z : Nat} (h : Z % 2 = 1) : ((Z : Int) % 2 == 1) = true := by rw [show (Z : Int) % 2 = 1 by omega]; rfl
theorem unzig_even {Z : Nat} (h : Z % 2 = 0) : (Z : Int) / 2 = unzig Z := by unfold unzig; rw [if_neg (by omega)]; omega
theorem unzig_odd {Z : Nat} (h : Z % 2 = 1) : -1 - (Z : Int) / 2 = unzig Z := by unfold unzig; rw [if_pos h]; omega

set_option maxRecDepth 100000 in
theorem rfail_walk (R : Nat) (v : Value) (er e : Int) (w : World) (h : w.heap[R]? = some (.cells #[v, .int .i64 er] 33 (0, 0))) :
    Calls Try.prog 92 #[.pointer (some ⟨R, 0, none⟩), .int .i64 e] w fun en w' => en = .returned (.tuple #[]) ∧ w' = if er = 0 then w.setCell ⟨R, 1, none⟩ (.int .i64 e) else w := by
  obtain ⟨h0, h1, h2, h3⟩ := row2 h
  by_cases hz : er = 0
  · subst hz
    go_enter Try.func92, Try.ntmps92
    go_wp2
    go_end0
    exact ⟨rfl, by simp⟩
  · go_enter Try.func92, Try.ntmps92
    go_wp2
    go_end0
    exact ⟨rfl, rfl⟩

set_option maxRecDepth 100000 in
set_option maxHeartbeats 1000000 in
theorem rint_walk {L : Nat} (R : Nat) (s : St) (w : World) (h : RSt 33 L w R s) :
    Calls Try.prog 23 #[.pointer (some ⟨R, 0, none⟩)] w (RdPost 33 L w R pInt s repInt) := by
  have hst := h
  obtain ⟨v, l, hs, hv, hvb, hb, hl⟩ := h
  cases s with
  | error er =>
    obtain ⟨he, he2, hrow⟩ := hs
    obtain ⟨c0, c1, f0, f1⟩ := row2 hrow
    have he' : ((er : Int) == 0) = false := by simp; omega
    go_enter Try.func23, Try.ntmps23
    go_wp2
    refine wp_loop_rounds 1 ?_
    rw [rounds_succ]
    go_wp2
    go_ret
    exact ⟨_, 0, _, rfl, ⟨rfl, by decide, by decide⟩, World.grownBy.refl _ _, hst, rfl⟩
  | ok l' =>
    obtain ⟨rfl, hrow⟩ := hs
    obtain ⟨c0, c1, f0, f1⟩ := row2 hrow
    obtain ⟨ao, cap, rfl, hnc, hcm⟩ := hv.shape
    go_enter Try.func23, Try.ntmps23
    go_wp2
    go_loop [3, 4] (fun x i => ∃ (k X : Nat), k ≤ 9 ∧ k ≤ l'.length ∧ X < 2 ^ (7 * k) ∧ rdI (l'.drop k) k X = rdI l' 0 0 ∧ i = .int .i64 k ∧ x = .int .u64 X) (fun _ i => 10 - (intOf i).toNat)
    case atStart => exact ⟨0, 0, by omega, by omega, by decide, rfl, rfl, rfl⟩
    case round =>
      obtain ⟨k, X, hk9, hkl, hX, hrd, rfl, rfl⟩ := hrel
      by_cases hlt : k < l'.length
      · obtain ⟨blk, off, rfl, hc⟩ := hv.at k (by simpa [bv] using hlt)
        have hcell : w.cell? ⟨blk, off + k, none⟩ = some (.int .u8 (l'[k] : Nat)) := (hc k (by simpa [bv] using hlt)).trans (by simp [bv])
        have hdrop : l'.drop k = l'[k] :: l'.drop (k + 1) := List.drop_eq_getElem_cons hlt
        have hcb := hb l'[k] (List.getElem_mem hlt)
        rw [hdrop] at hrd
        generalize l'[k] = c at *
        have HR := hid hrd
        clear hdrop hrd hc
        have HX := hid hX
        clear hX
        have hbad : (k = 9 ∧ 1 < c) ∨ (0 < k ∧ c = 0) → rdI l' 0 0 = .error 1 := by
          intro h; rw [← HR.out, rdI, if_pos h]
        rcases (show (k = 9 ∧ 1 < c) ∨ (0 < k ∧ k < 9 ∧ c ≤ 0) ∨ (k = 9 ∧ c ≤ 0) ∨ ((k = 9 ∧ c ≤ 1 ∧ 0 < c) ∨ k = 0 ∨ (0 < k ∧ k < 9 ∧ 0 < c)) from by omega) with ⟨hA, hB⟩ | ⟨hA, hA', hB⟩ | ⟨hA, hB⟩ | hC
        · have HE := hid (hbad (.inl ⟨hA, hB⟩))
          clear hbad
          have b9 : ((k : Int) == 9) = true := beqT (by omega)
          have b1 : decide (1 < (c : Int)) = true := decide_eq_true (by omega)
          have b0 : decide (0 < k) = true := decide_eq_true (by omega)
          have bc : ((c : Int) == 0) = false := beqF (by omega)
          clear hA
          go_wp2_with (go_at_call 92; refine (rfail_walk _ _ _ _ _ hrow).mono ?_; rintro e w' ⟨rfl, rfl⟩)
          go_ret
          exact ⟨_, 0, .error 1, rfl, ⟨rfl, by decide, by decide⟩, grown_setCell w ⟨R, 1, none⟩ _, RSt.fail hrow hv hvb hb hl 1 (by decide) (by decide), Rel.of_err (by unfold pInt; rw [HE.out])⟩
        · have HE := hid (hbad (.inr ⟨hA, by omega⟩))
          clear hbad
          have b9 : ((k : Int) == 9) = false := beqF (by omega)
          have b1 : decide (1 < (c : Int)) = false := decide_eq_false (by omega)
          have b0 : decide (0 < k) = true := decide_eq_true (by omega)
          have bc : ((c : Int) == 0) = true := beqT (by omega)
          go_wp2_with (go_at_call 92; refine (rfail_walk _ _ _ _ _ hrow).mono ?_; rintro e w' ⟨rfl, rfl⟩)
          go_ret
          exact ⟨_, 0, .error 1, rfl, ⟨rfl, by decide, by decide⟩, grown_setCell w ⟨R, 1, none⟩ _, RSt.fail hrow hv hvb hb hl 1 (by decide) (by decide), Rel.of_err (by unfold pInt; rw [HE.out])⟩
        · have HE := hid (hbad (.inr ⟨by omega, by omega⟩))
          clear hbad
          have b9 : ((k : Int) == 9) = true := beqT (by omega)
          have b1 : decide (1 < (c : Int)) = false := decide_eq_false (by omega)
          have b0 : decide (0 < k) = true := decide_eq_true (by omega)
          have bc : ((c : Int) == 0) = true := beqT (by omega)
          clear hA
          go_wp2_with (go_at_call 92; refine (rfail_walk _ _ _ _ _ hrow).mono ?_; rintro e w' ⟨rfl, rfl⟩)
          go_ret
          exact ⟨_, 0, .error 1, rfl, ⟨rfl, by decide, by decide⟩, grown_setCell w ⟨R, 1, none⟩ _, RSt.fail hrow hv hvb hb hl 1 (by decide) (by decide), Rel.of_err (by unfold pInt; rw [HE.out])⟩
        · clear hbad
          have hok : ¬ ((k = 9 ∧ 1 < c) ∨ (0 < k ∧ c = 0)) := by omega
          obtain ⟨st1, st2, st3, st4, st5⟩ := rdI_step X k hk9 HX.out c hcb hok
          have HN : Hid (rdI l' 0 0 = if c < 128 then .ok (X + c % 128 * 2 ^ (7 * k), l'.drop (k + 1)) else rdI (l'.drop (k + 1)) (k + 1) (X + c % 128 * 2 ^ (7 * k))) := by
            rw [← HR.out, rdI, if_neg hok]; exact hid rfl
          clear hok HR HX
          obtain ⟨y, hy, hy2⟩ : ∃ y : Nat, IntKind.u64.wrap ((c : Int) % 128 * 2 ^ (7 * k)) = (y : Int) ∧ y = c % 128 * 2 ^ (7 * k) := by
            refine ⟨_, ?_, rfl⟩
            rw [IntKind.wrap_u64, show (c : Int) % 128 * 2 ^ (7 * k) = ((c % 128 * 2 ^ (7 * k) : Nat) : Int) by rw [Int.natCast_mul, Int.natCast_pow]; rfl]
            omega
          obtain ⟨Z, hZ, hZ2⟩ : ∃ Z : Nat, bits BinOp.or IntKind.u64 (X : Int) (y : Int) = (Z : Int) ∧ Z = X + y := ⟨_, u64_or_nat X y st4 (by omega), by rw [hy2]; exact st1⟩
          rw [← hy2, ← hZ2] at HN st2 st5
          have HZ := hid st5
          clear st1 st3 st4 st5 hy2 hZ2
          obtain ⟨q, hq, hq2⟩ : ∃ q : Nat, bits BinOp.xor IntKind.u64 IntKind.u64.max ((Z : Int) / 2) = (q : Int) ∧ q = 18446744073709551615 - Z / 2 := by
            have := u64_not (Z / 2) (by omega)
            rw [Int.natCast_ediv] at this
            exact ⟨_, this, rfl⟩
          have hw1 : IntKind.i64.wrap (q : Int) = -1 - (Z : Int) / 2 := by rw [IntKind.wrap_i64]; omega
          have hw2 : wrap64 (q : Int) = -1 - (Z : Int) / 2 := by rw [← IntWalk.i64_left]; exact hw1
          have HW := hid hw2
          clear hq2 hw1 hw2
          have hcut := fun ao => Sl.cut (k := k + 1) hv rfl (by omega) ao
          have HC := hid hcut
          clear hcut
          have fin : ∀ (ao : Option Addr), c < 128 → (¬ cap = k + 1 → ao = some ⟨blk, off + (k + 1), none⟩) → (∃ o, ao = some ⟨blk, o, none⟩) → ∀ n : Int, n = unzig Z →
              RdPost 33 L w R pInt (.ok l') repInt (.returned (.int .i64 n)) (w.setCell ⟨R, 0, none⟩ (.slice ao (l'.length - (k + 1)) (cap - (k + 1)))) := by
            intro ao hc1 h1 h2 n hn
            obtain ⟨h3, h4⟩ := HC.out ao h1 h2
            have hpi : pInt l' = .ok (unzig Z, l'.drop (k + 1)) := by unfold pInt; rw [HN.out, if_pos hc1]
            have hr := pInt_range hb hpi
            refine ⟨_, n, .ok (l'.drop (k + 1)), rfl, ⟨rfl, by rw [hn]; exact hr.1, by rw [hn]; exact hr.2⟩, grown_setCell w ⟨R, 0, none⟩ _, RSt.next hrow h3 (LoR.of_eq (h4.trans rfl) hvb) (fun b hb' => hb b (List.mem_of_mem_drop hb')) (by rw [List.length_drop]; omega), ?_⟩
            rw [hn]
            exact Rel.of_ok hpi
          have FIN := hid fin
          clear fin
          rcases hC with ⟨h1, h2, h3⟩ | h1 | ⟨h1, h2, h3⟩
          · have b9 : ((k : Int) == 9) = true := beqT (by omega)
            have b1 : decide (1 < (c : Int)) = false := decide_eq_false (by omega)
            have b0 : decide (0 < k) = true := decide_eq_true (by omega)
            have bc : ((c : Int) == 0) = false := beqF (by omega)
            clear h1
            have hc1 : c < 128 := by omega
            rcases Nat.mod_two_eq_zero_or_one Z with hm3 | hm3
            · have bm : ((Z : Int) % 2 == 1) = false := z_even hm3
              have hn : (Z : Int) / 2 = unzig Z := unzig_even hm3
              have HNN := hid hn
              clear hn hm3
              by_cases hcap : cap = k + 1
              · subst hcap
                have F := FIN.out (some ⟨blk, off, none⟩) hc1 (by intro h; simp at h) ⟨_, rfl⟩ _ HNN.out
                rw [Nat.sub_self, show l'.length - (k + 1) = 0 by omega] at F
                have FF := hid F
                clear F
                go_wp2
                all_goals go_ret
                all_goals exact FF.out
              · go_wp2
                all_goals go_ret
                all_goals exact FIN.out (some ⟨blk, off + (k + 1), none⟩) hc1 (fun _ => rfl) ⟨_, rfl⟩ _ HNN.out
            · have bm : ((Z : Int) % 2 == 1) = true := z_odd hm3
              have hn : wrap64 (q : Int) = unzig Z := HW.out.trans (unzig_odd hm3)
              have HNN := hid hn
              clear hn hm3
              by_cases hcap : cap = k + 1
              · subst hcap
                have F := FIN.out (some ⟨blk, off, none⟩) hc1 (by intro h; simp at h) ⟨_, rfl⟩ _ HNN.out
                rw [Nat.sub_self, show l'.length - (k + 1) = 0 by omega] at F
                have FF := hid F
                clear F
                go_wp2
                all_goals go_ret
                all_goals exact FF.out
              · go_wp2
                all_goals go_ret
                all_goals exact FIN.out (some ⟨blk, off + (k + 1), none⟩) hc1 (fun _ => rfl) ⟨_, rfl⟩ _ HNN.out
          · have b9 : ((k : Int) == 9) = false := beqF (by omega)
            have b0 : decide (0 < k) = false := decide_eq_false (by omega)
            clear h1
            by_cases hc1 : c < 128
            · rcases Nat.mod_two_eq_zero_or_one Z with hm3 | hm3
              · have bm : ((Z : Int) % 2 == 1) = false := z_even hm3
                have hn : (Z : Int) / 2 = unzig Z := unzig_even hm3
                have HNN := hid hn
                clear hn hm3
                by_cases hcap : cap = k + 1
                · subst hcap
                  have F := FIN.out (some ⟨blk, off, none⟩) hc1 (by intro h; simp at h) ⟨_, rfl⟩ _ HNN.out
                  rw [Nat.sub_self, show l'.length - (k + 1) = 0 by omega] at F
                  have FF := hid F
                  clear F
                  go_wp2
                  all_goals go_ret
                  all_goals exact FF.out
                · go_wp2
                  all_goals go_ret
                  all_goals exact FIN.out (some ⟨blk, off + (k + 1), none⟩) hc1 (fun _ => rfl) ⟨_, rfl⟩ _ HNN.out
              · have bm : ((Z : Int) % 2 == 1) = true := z_odd hm3
                have hn : wrap64 (q : Int) = unzig Z := HW.out.trans (unzig_odd hm3)
                have HNN := hid hn
                clear hn hm3
                by_cases hcap : cap = k + 1
                · subst hcap
                  have F := FIN.out (some ⟨blk, off, none⟩) hc1 (by intro h; simp at h) ⟨_, rfl⟩ _ HNN.out
                  rw [Nat.sub_self, show l'.length - (k + 1) = 0 by omega] at F
                  have FF := hid F
                  clear F
                  go_wp2
                  all_goals go_ret
                  all_goals exact FF.out
                · go_wp2
                  all_goals go_ret
                  all_goals exact FIN.out (some ⟨blk, off + (k + 1), none⟩) hc1 (fun _ => rfl) ⟨_, rfl⟩ _ HNN.out
            · have h8 := (HZ.out hc1).1
              go_wp2
              go_round
              case rel => exact ⟨k + 1, Z, by omega, by omega, (HZ.out hc1).2, by rw [HN.out, if_neg hc1], by go_num, by go_num⟩
              case measure => simp [intOf]; omega
          · have b9 : ((k : Int) == 9) = false := beqF (by omega)
            have b0 : decide (0 < k) = true := decide_eq_true (by omega)
            have bc : ((c : Int) == 0) = false := beqF (by omega)
            by_cases hc1 : c < 128
            · rcases Nat.mod_two_eq_zero_or_one Z with hm3 | hm3
              · have bm : ((Z : Int) % 2 == 1) = false := z_even hm3
                have hn : (Z : Int) / 2 = unzig Z := unzig_even hm3
                have HNN := hid hn
                clear hn hm3
                by_cases hcap : cap = k + 1
                · subst hcap
                  have F := FIN.out (some ⟨blk, off, none⟩) hc1 (by intro h; simp at h) ⟨_, rfl⟩ _ HNN.out
                  rw [Nat.sub_self, show l'.length - (k + 1) = 0 by omega] at F
                  have FF := hid F
                  clear F
                  go_wp2
                  all_goals go_ret
                  all_goals exact FF.out
                · go_wp2
                  all_goals go_ret
                  all_goals exact FIN.out (some ⟨blk, off + (k + 1), none⟩) hc1 (fun _ => rfl) ⟨_, rfl⟩ _ HNN.out
              · have bm : ((Z : Int) % 2 == 1) = true := z_odd hm3
                have hn : wrap64 (q : Int) = unzig Z := HW.out.trans (unzig_odd hm3)
                have HNN := hid hn
                clear hn hm3
                by_cases hcap : cap = k + 1
                · subst hcap
                  have F := FIN.out (some ⟨blk, off, none⟩) hc1 (by intro h; simp at h) ⟨_, rfl⟩ _ HNN.out
                  rw [Nat.sub_self, show l'.length - (k + 1) = 0 by omega] at F
                  have FF := hid F
                  clear F
                  go_wp2
                  all_goals go_ret
                  all_goals exact FF.out
                · go_wp2
                  all_goals go_ret
                  all_goals exact FIN.out (some ⟨blk, off + (k + 1), none⟩) hc1 (fun _ => rfl) ⟨_, rfl⟩ _ HNN.out
            · have h8 := (HZ.out hc1).1
              go_wp2
              go_round
              case rel => exact ⟨k + 1, Z, by omega, by omega, (HZ.out hc1).2, by rw [HN.out, if_neg hc1], by go_num, by go_num⟩
              case measure => simp [intOf]; omega
      · obtain rfl : k = l'.length := by omega
        go_wp2_with (go_at_call 92; refine (rfail_walk _ _ _ _ _ hrow).mono ?_; rintro e w' ⟨rfl, rfl⟩)
        go_ret
        exact ⟨_, 0, .error 100, rfl, ⟨rfl, by decide, by decide⟩, grown_setCell w ⟨R, 1, none⟩ _, RSt.fail hrow hv hvb hb hl 100 (by decide) (by decide), Rel.of_err (by unfold pInt; rw [← hrd, List.drop_length]; rfl)⟩
end Go.Proofs.Ytkeiffccllfkpaa
