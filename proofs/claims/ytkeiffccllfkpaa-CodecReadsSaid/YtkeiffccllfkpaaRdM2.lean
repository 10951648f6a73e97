import Derived.Test.YtkeiffccllfkpaaRdM1
import Derived.Laws.DeepNot64
import Derived.Deep.MidRow
set_option linter.unusedSimpArgs false
set_option linter.unusedVariables false
set_option maxRecDepth 100000
set_option maxHeartbeats 1000000
/- The reader of the program, the codec's data, read. (merged by merge.py) -/
namespace Go.Proofs.Ytkeiffccllfkpaa
/-! ## ReadInt -/
section
open Go.RowKit
theorem row2 {w : World} {R : Nat} {T : TypeId} {a b : Value} (h : w.heap[R]? = some (.cells #[a, b] T (0, 0))) :
   w.cell? ⟨R, 0, none⟩ = some a ∧ w.cell? ⟨R, 1, none⟩ = some b ∧ w.frozen? ⟨R, 0, none⟩ = false ∧ w.frozen? ⟨R, 1, none⟩ = false := by
 refine ⟨?_, ?_, frozen_of_row w R 0 _ T h, frozen_of_row w R 1 _ T h⟩
 · rw [cell_of_row w R 0 _ T _ h]; rfl
 · rw [cell_of_row w R 1 _ T _ h]; rfl
theorem grown_setCell (w : World) (a : Addr) (v : Value) : w.grownBy (w.setCell a v) (some a.block) :=
 ⟨rfl, rfl, rfl, by simp, fun k _ hk => heap_setCell_other w a k v (fun e => hk (by simp [e]))⟩
theorem RSt.fail {T : TypeId} {L : Nat} {w : World} {R : Nat} {v : Value} {l : List Nat} (h : w.heap[R]? = some (.cells #[v, .int .i64 0] T (0, 0))) (hv : Sl w 1 v l.length (bv l)) (hvb : LoR v L R) (hb : ∀ b ∈ l, b < 256) (hl : l.length ≤ 1099511627776) (e : Nat) (he : e ≠ 0) (he2 : e ≤ 200) :
   RSt T L (w.setCell ⟨R, 1, none⟩ (.int .i64 e)) R (.error e) :=
 ⟨v, l, ⟨he, he2, heap_setCell_same w R 1 _ T _ h⟩, hv.kept (grown_setCell w ⟨R, 1, none⟩ _) (.inr (hvb.ne (Nat.le_refl _))), hvb, hb, hl⟩
theorem RSt.next {T : TypeId} {L : Nat} {w : World} {R : Nat} {v v' : Value} {l : List Nat} (h : w.heap[R]? = some (.cells #[v, .int .i64 0] T (0, 0))) (hv : Sl w 1 v' l.length (bv l)) (hvb : LoR v' L R) (hb : ∀ b ∈ l, b < 256) (hl : l.length ≤ 1099511627776) :
   RSt T L (w.setCell ⟨R, 0, none⟩ v') R (.ok l) :=
 ⟨v', l, ⟨rfl, heap_setCell_same w R 0 _ T _ h⟩, hv.kept (grown_setCell w ⟨R, 0, none⟩ _) (.inr (hvb.ne (Nat.le_refl _))), hvb, hb, hl⟩
theorem Sl.cut {w : World} {b off n cap k : Nat} {l : List Nat} (h : Sl w 1 (.slice (some ⟨b, off, none⟩) n cap) n (bv l)) (hn : n = l.length) (hk : k ≤ n) (ao : Option Addr) (hao : ¬ cap = k → ao = some ⟨b, off + k, none⟩) (hao2 : ∃ o, ao = some ⟨b, o, none⟩) :
   Sl w 1 (.slice ao (n - k) (cap - k)) (l.drop k).length (bv (l.drop k)) ∧ (.slice ao (n - k) (cap - k) : Value).ownBlock = some b := by
 subst hn
 obtain ⟨hl, ao', cap', hv, h1, h2, h3, h4⟩ := h
 simp only [Value.slice.injEq] at hv
 obtain ⟨rfl, _, rfl⟩ := hv
 obtain ⟨o, rfl⟩ := hao2
 obtain ⟨_, hc⟩ := h4 _ rfl
 refine ⟨⟨by simp [bv], _, _, by rw [List.length_drop], by simp; omega, by omega, fun h => (by cases h), fun a ha => ?_⟩, rfl⟩
 obtain rfl := Option.some.inj ha
 refine ⟨rfl, fun j u hu => ?_⟩
 have hj : j < l.length - k := by have := (List.getElem?_eq_some_iff.1 hu).1; simpa [bv] using this
 have he := hao (by omega)
 simp only [Option.some.injEq, Addr.mk.injEq, and_true, true_and] at he
 subst he
 have := hc (k + j) u (by rw [← hu]; simp [bv])
 simpa [Nat.add_assoc] using this
theorem beqT {a b : Int} (h : a = b) : (a == b) = true := by simp [h]
theorem beqF {a b : Int} (h : a ≠ b) : (a == b) = false := by simp [h]
def RdPost (T : TypeId) (L : Nat) (w : World) (R : Nat) {α : Type} (p : Parser α) (s : St) (rep : World → Value → α → Prop) (en : Ending) (w' : World) : Prop :=
 ∃ v x s', en = .returned v ∧ rep w' v x ∧ w.grownBy w' (some R) ∧ RSt T L w' R s' ∧ Rel p s x s'
def repInt (_ : World) (v : Value) (n : Int) : Prop := v = .int .i64 n ∧ -9223372036854775808 ≤ n ∧ n ≤ 9223372036854775807
theorem fail_walk (R : Nat) (v : Value) (er e : Int) (w : World) (h : w.heap[R]? = some (.cells #[v, .int .i64 er] 201 (0, 0))) :
   Calls Try.prog 166 #[.pointer (some ⟨R, 0, none⟩), .int .i64 e] w fun en w' => en = .returned (.tuple #[]) ∧ w' = if er = 0 then w.setCell ⟨R, 1, none⟩ (.int .i64 e) else w := by
 obtain ⟨h0, h1, h2, h3⟩ := row2 h
 by_cases hz : er = 0
 · subst hz
   go_enter Try.func166, Try.ntmps166
   go_wp2
   go_end0
   exact ⟨rfl, by simp⟩
 · go_enter Try.func166, Try.ntmps166
   go_wp2
   go_end0
   exact ⟨rfl, rfl⟩
theorem int_walk {L : Nat} (R : Nat) (s : St) (w : World) (h : RSt 201 L w R s) :
   Calls Try.prog 91 #[.pointer (some ⟨R, 0, none⟩)] w (RdPost 201 L w R pInt s repInt) := by
 have hst := h
 obtain ⟨v, l, hs, hv, hvb, hb, hl⟩ := h
 cases s with
 | error er =>
   obtain ⟨he, he2, hrow⟩ := hs
   obtain ⟨c0, c1, f0, f1⟩ := row2 hrow
   have he' : ((er : Int) == 0) = false := by simp; omega
   go_enter Try.func91, Try.ntmps91
   go_wp2
   refine wp_loop_rounds 1 ?_
   rw [rounds_succ]
   go_wp2
   go_ret
   exact ⟨_, 0, _, rfl, ⟨rfl, by decide, by decide⟩, World.grownBy.refl _ _, hst, rfl⟩
 | ok l' =>
   obtain ⟨rfl, hrow⟩ := hs
   obtain ⟨c0, c1, f0, f1⟩ := row2 hrow
   obtain ⟨ao, cap, rfl, hnc, hcm⟩ := hv.shape
   go_enter Try.func91, Try.ntmps91
   go_wp2
   go_loop [3, 4] (fun x i => ∃ (k X : Nat), k ≤ 9 ∧ k ≤ l'.length ∧ X < 2 ^ (7 * k) ∧ rdI (l'.drop k) k X = rdI l' 0 0 ∧ i = .int .i64 k ∧ x = .int .u64 X) (fun _ i => 10 - (intOf i).toNat)
   case atStart => exact ⟨0, 0, by omega, by omega, by decide, rfl, rfl, rfl⟩
   case round =>
     obtain ⟨k, X, hk9, hkl, hX, hrd, rfl, rfl⟩ := hrel
     by_cases hlt : k < l'.length
     · obtain ⟨blk, off, rfl, hc⟩ := hv.at k (by simpa [bv] using hlt)
       have hcell : w.cell? ⟨blk, off + k, none⟩ = some (.int .u8 (l'[k] : Nat)) := (hc k (by simpa [bv] using hlt)).trans (by simp [bv])
       have hdrop : l'.drop k = l'[k] :: l'.drop (k + 1) := List.drop_eq_getElem_cons hlt
       have hcb := hb l'[k] (List.getElem_mem hlt)
       rw [hdrop] at hrd
       generalize l'[k] = c at *
       have HR := hid hrd
       clear hdrop hrd hc
       have HX := hid hX
       clear hX
       have hbad : (k = 9 ∧ 1 < c) ∨ (0 < k ∧ c = 0) → rdI l' 0 0 = .error 1 := by
         intro h; rw [← HR.out, rdI, if_pos h]
       obtain ⟨d, hd, hdlt⟩ : ∃ d : Nat, bits BinOp.and IntKind.u8 (c : Int) 127 = (d : Int) ∧ d < 128 := ⟨c % 128, by have := u8_and_nat c 127 (by omega) (by decide); rw [nat_mask7] at this; exact this, by omega⟩
       rcases (show (k = 9 ∧ 1 < c) ∨ (0 < k ∧ k < 9 ∧ c ≤ 0) ∨ (k = 9 ∧ c ≤ 0) ∨ ((k = 9 ∧ c ≤ 1 ∧ 0 < c) ∨ k = 0 ∨ (0 < k ∧ k < 9 ∧ 0 < c)) from by omega) with ⟨hA, hB⟩ | ⟨hA, hA', hB⟩ | ⟨hA, hB⟩ | hC
       · have HE := hid (hbad (.inl ⟨hA, hB⟩))
         clear hbad
         have b9 : ((k : Int) == 9) = true := beqT (by omega)
         have b1 : decide (1 < (c : Int)) = true := decide_eq_true (by omega)
         have b0 : decide (0 < k) = true := decide_eq_true (by omega)
         have bc : ((c : Int) == 0) = false := beqF (by omega)
         clear hA
         go_wp2_with (go_at_call 166; refine (fail_walk _ _ _ _ _ hrow).mono ?_; rintro e w' ⟨rfl, rfl⟩)
         go_ret
         exact ⟨_, 0, .error 1, rfl, ⟨rfl, by decide, by decide⟩, grown_setCell w ⟨R, 1, none⟩ _, RSt.fail hrow hv hvb hb hl 1 (by decide) (by decide), Rel.of_err (by unfold pInt; rw [HE.out])⟩
       · have HE := hid (hbad (.inr ⟨hA, by omega⟩))
         clear hbad
         have b9 : ((k : Int) == 9) = false := beqF (by omega)
         have b1 : decide (1 < (c : Int)) = false := decide_eq_false (by omega)
         have b0 : decide (0 < k) = true := decide_eq_true (by omega)
         have bc : ((c : Int) == 0) = true := beqT (by omega)
         go_wp2_with (go_at_call 166; refine (fail_walk _ _ _ _ _ hrow).mono ?_; rintro e w' ⟨rfl, rfl⟩)
         go_ret
         exact ⟨_, 0, .error 1, rfl, ⟨rfl, by decide, by decide⟩, grown_setCell w ⟨R, 1, none⟩ _, RSt.fail hrow hv hvb hb hl 1 (by decide) (by decide), Rel.of_err (by unfold pInt; rw [HE.out])⟩
       · have HE := hid (hbad (.inr ⟨by omega, by omega⟩))
         clear hbad
         have b9 : ((k : Int) == 9) = true := beqT (by omega)
         have b1 : decide (1 < (c : Int)) = false := decide_eq_false (by omega)
         have b0 : decide (0 < k) = true := decide_eq_true (by omega)
         have bc : ((c : Int) == 0) = true := beqT (by omega)
         clear hA
         go_wp2_with (go_at_call 166; refine (fail_walk _ _ _ _ _ hrow).mono ?_; rintro e w' ⟨rfl, rfl⟩)
         go_ret
         exact ⟨_, 0, .error 1, rfl, ⟨rfl, by decide, by decide⟩, grown_setCell w ⟨R, 1, none⟩ _, RSt.fail hrow hv hvb hb hl 1 (by decide) (by decide), Rel.of_err (by unfold pInt; rw [HE.out])⟩
       · clear hbad
         have hok : ¬ ((k = 9 ∧ 1 < c) ∨ (0 < k ∧ c = 0)) := by omega
         obtain ⟨st1, st2, st3, st4, st5⟩ := rdI_step X k hk9 HX.out c hcb hok
         have HN : Hid (rdI l' 0 0 = if c < 128 then .ok (X + c % 128 * 2 ^ (7 * k), l'.drop (k + 1)) else rdI (l'.drop (k + 1)) (k + 1) (X + c % 128 * 2 ^ (7 * k))) := by
           rw [← HR.out, rdI, if_neg hok]; exact hid rfl
         clear hok HR HX
         have hd' : d = c % 128 := by
           have h := u8_and_nat c 127 (by omega) (by decide)
           rw [nat_mask7] at h
           have h2 := hd.symm.trans h
           omega
         obtain ⟨y, hy, hy2⟩ : ∃ y : Nat, IntKind.u64.wrap ((d : Int) * 2 ^ (7 * k)) = (y : Int) ∧ y = c % 128 * 2 ^ (7 * k) := by
           refine ⟨_, ?_, rfl⟩
           rw [hd', IntKind.wrap_u64, show ((c % 128 : Nat) : Int) * 2 ^ (7 * k) = ((c % 128 * 2 ^ (7 * k) : Nat) : Int) by rw [Int.natCast_mul, Int.natCast_pow]; rfl]
           omega
         obtain ⟨Z, hZ, hZ2⟩ : ∃ Z : Nat, bits BinOp.or IntKind.u64 (X : Int) (y : Int) = (Z : Int) ∧ Z = X + y := ⟨_, u64_or_nat X y st4 (by omega), by rw [hy2]; exact st1⟩
         rw [← hy2, ← hZ2] at HN st2 st5
         have HZ := hid st5
         clear st1 st3 st4 st5 hy2 hZ2 hd'
         obtain ⟨m, hm, hm2⟩ : ∃ m : Nat, bits BinOp.and IntKind.u64 (Z : Int) 1 = (m : Int) ∧ m = Z % 2 := ⟨_, u64_and_nat Z 1 st2 (by decide), nat_mask1 Z⟩
         have hx := i64_not (Z / 2) (by omega)
         rw [Int.natCast_ediv] at hx
         have hx' : bits BinOp.xor IntKind.i64 (-1) ((Z : Int) / 2) = -1 - (Z : Int) / 2 := hx
         clear hx
         have HM := hid hm2
         clear hm2
         have hcut := fun ao => Sl.cut (k := k + 1) hv rfl (by omega) ao
         have HC := hid hcut
         clear hcut
         have fin : ∀ (ao : Option Addr), c < 128 → (¬ cap = k + 1 → ao = some ⟨blk, off + (k + 1), none⟩) → (∃ o, ao = some ⟨blk, o, none⟩) → ∀ n : Int, n = unzig Z →
             RdPost 201 L w R pInt (.ok l') repInt (.returned (.int .i64 n)) (w.setCell ⟨R, 0, none⟩ (.slice ao (l'.length - (k + 1)) (cap - (k + 1)))) := by
           intro ao hc1 h1 h2 n hn
           obtain ⟨h3, h4⟩ := HC.out ao h1 h2
           have hpi : pInt l' = .ok (unzig Z, l'.drop (k + 1)) := by unfold pInt; rw [HN.out, if_pos hc1]
           have hr := pInt_range hb hpi
           refine ⟨_, n, .ok (l'.drop (k + 1)), rfl, ⟨rfl, by rw [hn]; exact hr.1, by rw [hn]; exact hr.2⟩, grown_setCell w ⟨R, 0, none⟩ _, RSt.next hrow h3 (LoR.of_eq (h4.trans rfl) hvb) (fun b hb' => hb b (List.mem_of_mem_drop hb')) (by rw [List.length_drop]; omega), ?_⟩
           rw [hn]
           exact Rel.of_ok hpi
         have FIN := hid fin
         clear fin
         rcases hC with ⟨h1, h2, h3⟩ | h1 | ⟨h1, h2, h3⟩
         · have b9 : ((k : Int) == 9) = true := beqT (by omega)
           have b1 : decide (1 < (c : Int)) = false := decide_eq_false (by omega)
           have b0 : decide (0 < k) = true := decide_eq_true (by omega)
           have bc : ((c : Int) == 0) = false := beqF (by omega)
           clear h1
           have hc1 : c < 128 := by omega
           have hm3 : m = 0 ∨ m = 1 := by have := HM.out; omega
           rcases hm3 with hm3 | hm3
           · have bm : ((m : Int) == 1) = false := beqF (by omega)
             have hn : (Z : Int) / 2 = unzig Z := by have := HM.out; unfold unzig; rw [if_neg (by omega)]; omega
             have HNN := hid hn
             clear hn hm3
             by_cases hcap : cap = k + 1
             · subst hcap
               have F := FIN.out (some ⟨blk, off, none⟩) hc1 (by intro h; simp at h) ⟨_, rfl⟩ _ HNN.out
               rw [Nat.sub_self, show l'.length - (k + 1) = 0 by omega] at F
               have FF := hid F
               clear F
               go_wp2
               all_goals go_ret
               all_goals exact FF.out
             · go_wp2
               all_goals go_ret
               all_goals exact FIN.out (some ⟨blk, off + (k + 1), none⟩) hc1 (fun _ => rfl) ⟨_, rfl⟩ _ HNN.out
           · have bm : ((m : Int) == 1) = true := beqT (by omega)
             have hn : -1 - (Z : Int) / 2 = unzig Z := by have := HM.out; unfold unzig; rw [if_pos (by omega)]; omega
             have HNN := hid hn
             clear hn hm3
             by_cases hcap : cap = k + 1
             · subst hcap
               have F := FIN.out (some ⟨blk, off, none⟩) hc1 (by intro h; simp at h) ⟨_, rfl⟩ _ HNN.out
               rw [Nat.sub_self, show l'.length - (k + 1) = 0 by omega] at F
               have FF := hid F
               clear F
               go_wp2
               all_goals go_ret
               all_goals exact FF.out
             · go_wp2
               all_goals go_ret
               all_goals exact FIN.out (some ⟨blk, off + (k + 1), none⟩) hc1 (fun _ => rfl) ⟨_, rfl⟩ _ HNN.out
         · have b9 : ((k : Int) == 9) = false := beqF (by omega)
           have b0 : decide (0 < k) = false := decide_eq_false (by omega)
           clear h1
           by_cases hc1 : c < 128
           · have hm3 : m = 0 ∨ m = 1 := by have := HM.out; omega
             rcases hm3 with hm3 | hm3
             · have bm : ((m : Int) == 1) = false := beqF (by omega)
               have hn : (Z : Int) / 2 = unzig Z := by have := HM.out; unfold unzig; rw [if_neg (by omega)]; omega
               have HNN := hid hn
               clear hn hm3
               by_cases hcap : cap = k + 1
               · subst hcap
                 have F := FIN.out (some ⟨blk, off, none⟩) hc1 (by intro h; simp at h) ⟨_, rfl⟩ _ HNN.out
                 rw [Nat.sub_self, show l'.length - (k + 1) = 0 by omega] at F
                 have FF := hid F
                 clear F
                 go_wp2
                 all_goals go_ret
                 all_goals exact FF.out
               · go_wp2
                 all_goals go_ret
                 all_goals exact FIN.out (some ⟨blk, off + (k + 1), none⟩) hc1 (fun _ => rfl) ⟨_, rfl⟩ _ HNN.out
             · have bm : ((m : Int) == 1) = true := beqT (by omega)
               have hn : -1 - (Z : Int) / 2 = unzig Z := by have := HM.out; unfold unzig; rw [if_pos (by omega)]; omega
               have HNN := hid hn
               clear hn hm3
               by_cases hcap : cap = k + 1
               · subst hcap
                 have F := FIN.out (some ⟨blk, off, none⟩) hc1 (by intro h; simp at h) ⟨_, rfl⟩ _ HNN.out
                 rw [Nat.sub_self, show l'.length - (k + 1) = 0 by omega] at F
                 have FF := hid F
                 clear F
                 go_wp2
                 all_goals go_ret
                 all_goals exact FF.out
               · go_wp2
                 all_goals go_ret
                 all_goals exact FIN.out (some ⟨blk, off + (k + 1), none⟩) hc1 (fun _ => rfl) ⟨_, rfl⟩ _ HNN.out
           · have h8 := (HZ.out hc1).1
             go_wp2
             go_round
             case rel => exact ⟨k + 1, Z, by omega, by omega, (HZ.out hc1).2, by rw [HN.out, if_neg hc1], by go_num, by go_num⟩
             case measure => simp [intOf]; omega
         · have b9 : ((k : Int) == 9) = false := beqF (by omega)
           have b0 : decide (0 < k) = true := decide_eq_true (by omega)
           have bc : ((c : Int) == 0) = false := beqF (by omega)
           by_cases hc1 : c < 128
           · have hm3 : m = 0 ∨ m = 1 := by have := HM.out; omega
             rcases hm3 with hm3 | hm3
             · have bm : ((m : Int) == 1) = false := beqF (by omega)
               have hn : (Z : Int) / 2 = unzig Z := by have := HM.out; unfold unzig; rw [if_neg (by omega)]; omega
               have HNN := hid hn
               clear hn hm3
               by_cases hcap : cap = k + 1
               · subst hcap
                 have F := FIN.out (some ⟨blk, off, none⟩) hc1 (by intro h; simp at h) ⟨_, rfl⟩ _ HNN.out
                 rw [Nat.sub_self, show l'.length - (k + 1) = 0 by omega] at F
                 have FF := hid F
                 clear F
                 go_wp2
                 all_goals go_ret
                 all_goals exact FF.out
               · go_wp2
                 all_goals go_ret
                 all_goals exact FIN.out (some ⟨blk, off + (k + 1), none⟩) hc1 (fun _ => rfl) ⟨_, rfl⟩ _ HNN.out
             · have bm : ((m : Int) == 1) = true := beqT (by omega)
               have hn : -1 - (Z : Int) / 2 = unzig Z := by have := HM.out; unfold unzig; rw [if_pos (by omega)]; omega
               have HNN := hid hn
               clear hn hm3
               by_cases hcap : cap = k + 1
               · subst hcap
                 have F := FIN.out (some ⟨blk, off, none⟩) hc1 (by intro h; simp at h) ⟨_, rfl⟩ _ HNN.out
                 rw [Nat.sub_self, show l'.length - (k + 1) = 0 by omega] at F
                 have FF := hid F
                 clear F
                 go_wp2
                 all_goals go_ret
                 all_goals exact FF.out
               · go_wp2
                 all_goals go_ret
                 all_goals exact FIN.out (some ⟨blk, off + (k + 1), none⟩) hc1 (fun _ => rfl) ⟨_, rfl⟩ _ HNN.out
           · have h8 := (HZ.out hc1).1
             go_wp2
             go_round
             case rel => exact ⟨k + 1, Z, by omega, by omega, (HZ.out hc1).2, by rw [HN.out, if_neg hc1], by go_num, by go_num⟩
             case measure => simp [intOf]; omega
     · obtain rfl : k = l'.length := by omega
       go_wp2_with (go_at_call 166; refine (fail_walk _ _ _ _ _ hrow).mono ?_; rintro e w' ⟨rfl, rfl⟩)
       go_ret
       exact ⟨_, 0, .error 100, rfl, ⟨rfl, by decide, by decide⟩, grown_setCell w ⟨R, 1, none⟩ _, RSt.fail hrow hv hvb hb hl 100 (by decide) (by decide), Rel.of_err (by unfold pInt; rw [← hrd, List.drop_length]; rfl)⟩
end
/-! ## ReadInt2 -/
section
open Go.RowKit
theorem z_even {Z : Nat} (h : Z % 2 = 0) : ((Z : Int) % 2 == 1) = false := by rw [show (Z : Int) % 2 = 0 by omega]; rfl
theorem z_odd {Z : Nat} (h : Z % 2 = 1) : ((Z : Int) % 2 == 1) = true := by rw [show (Z : Int) % 2 = 1 by omega]; rfl
theorem unzig_even {Z : Nat} (h : Z % 2 = 0) : (Z : Int) / 2 = unzig Z := by unfold unzig; rw [if_neg (by omega)]; omega
theorem unzig_odd {Z : Nat} (h : Z % 2 = 1) : -1 - (Z : Int) / 2 = unzig Z := by unfold unzig; rw [if_pos h]; omega
theorem rfail_walk (R : Nat) (v : Value) (er e : Int) (w : World) (h : w.heap[R]? = some (.cells #[v, .int .i64 er] 33 (0, 0))) :
   Calls Try.prog 92 #[.pointer (some ⟨R, 0, none⟩), .int .i64 e] w fun en w' => en = .returned (.tuple #[]) ∧ w' = if er = 0 then w.setCell ⟨R, 1, none⟩ (.int .i64 e) else w := by
 obtain ⟨h0, h1, h2, h3⟩ := row2 h
 by_cases hz : er = 0
 · subst hz
   go_enter Try.func92, Try.ntmps92
   go_wp2
   go_end0
   exact ⟨rfl, by simp⟩
 · go_enter Try.func92, Try.ntmps92
   go_wp2
   go_end0
   exact ⟨rfl, rfl⟩
theorem rint_walk {L : Nat} (R : Nat) (s : St) (w : World) (h : RSt 33 L w R s) :
   Calls Try.prog 23 #[.pointer (some ⟨R, 0, none⟩)] w (RdPost 33 L w R pInt s repInt) := by
 have hst := h
 obtain ⟨v, l, hs, hv, hvb, hb, hl⟩ := h
 cases s with
 | error er =>
   obtain ⟨he, he2, hrow⟩ := hs
   obtain ⟨c0, c1, f0, f1⟩ := row2 hrow
   have he' : ((er : Int) == 0) = false := by simp; omega
   go_enter Try.func23, Try.ntmps23
   go_wp2
   refine wp_loop_rounds 1 ?_
   rw [rounds_succ]
   go_wp2
   go_ret
   exact ⟨_, 0, _, rfl, ⟨rfl, by decide, by decide⟩, World.grownBy.refl _ _, hst, rfl⟩
 | ok l' =>
   obtain ⟨rfl, hrow⟩ := hs
   obtain ⟨c0, c1, f0, f1⟩ := row2 hrow
   obtain ⟨ao, cap, rfl, hnc, hcm⟩ := hv.shape
   go_enter Try.func23, Try.ntmps23
   go_wp2
   go_loop [3, 4] (fun x i => ∃ (k X : Nat), k ≤ 9 ∧ k ≤ l'.length ∧ X < 2 ^ (7 * k) ∧ rdI (l'.drop k) k X = rdI l' 0 0 ∧ i = .int .i64 k ∧ x = .int .u64 X) (fun _ i => 10 - (intOf i).toNat)
   case atStart => exact ⟨0, 0, by omega, by omega, by decide, rfl, rfl, rfl⟩
   case round =>
     obtain ⟨k, X, hk9, hkl, hX, hrd, rfl, rfl⟩ := hrel
     by_cases hlt : k < l'.length
     · obtain ⟨blk, off, rfl, hc⟩ := hv.at k (by simpa [bv] using hlt)
       have hcell : w.cell? ⟨blk, off + k, none⟩ = some (.int .u8 (l'[k] : Nat)) := (hc k (by simpa [bv] using hlt)).trans (by simp [bv])
       have hdrop : l'.drop k = l'[k] :: l'.drop (k + 1) := List.drop_eq_getElem_cons hlt
       have hcb := hb l'[k] (List.getElem_mem hlt)
       rw [hdrop] at hrd
       generalize l'[k] = c at *
       have HR := hid hrd
       clear hdrop hrd hc
       have HX := hid hX
       clear hX
       have hbad : (k = 9 ∧ 1 < c) ∨ (0 < k ∧ c = 0) → rdI l' 0 0 = .error 1 := by
         intro h; rw [← HR.out, rdI, if_pos h]
       rcases (show (k = 9 ∧ 1 < c) ∨ (0 < k ∧ k < 9 ∧ c ≤ 0) ∨ (k = 9 ∧ c ≤ 0) ∨ ((k = 9 ∧ c ≤ 1 ∧ 0 < c) ∨ k = 0 ∨ (0 < k ∧ k < 9 ∧ 0 < c)) from by omega) with ⟨hA, hB⟩ | ⟨hA, hA', hB⟩ | ⟨hA, hB⟩ | hC
       · have HE := hid (hbad (.inl ⟨hA, hB⟩))
         clear hbad
         have b9 : ((k : Int) == 9) = true := beqT (by omega)
         have b1 : decide (1 < (c : Int)) = true := decide_eq_true (by omega)
         have b0 : decide (0 < k) = true := decide_eq_true (by omega)
         have bc : ((c : Int) == 0) = false := beqF (by omega)
         clear hA
         go_wp2_with (go_at_call 92; refine (rfail_walk _ _ _ _ _ hrow).mono ?_; rintro e w' ⟨rfl, rfl⟩)
         go_ret
         exact ⟨_, 0, .error 1, rfl, ⟨rfl, by decide, by decide⟩, grown_setCell w ⟨R, 1, none⟩ _, RSt.fail hrow hv hvb hb hl 1 (by decide) (by decide), Rel.of_err (by unfold pInt; rw [HE.out])⟩
       · have HE := hid (hbad (.inr ⟨hA, by omega⟩))
         clear hbad
         have b9 : ((k : Int) == 9) = false := beqF (by omega)
         have b1 : decide (1 < (c : Int)) = false := decide_eq_false (by omega)
         have b0 : decide (0 < k) = true := decide_eq_true (by omega)
         have bc : ((c : Int) == 0) = true := beqT (by omega)
         go_wp2_with (go_at_call 92; refine (rfail_walk _ _ _ _ _ hrow).mono ?_; rintro e w' ⟨rfl, rfl⟩)
         go_ret
         exact ⟨_, 0, .error 1, rfl, ⟨rfl, by decide, by decide⟩, grown_setCell w ⟨R, 1, none⟩ _, RSt.fail hrow hv hvb hb hl 1 (by decide) (by decide), Rel.of_err (by unfold pInt; rw [HE.out])⟩
       · have HE := hid (hbad (.inr ⟨by omega, by omega⟩))
         clear hbad
         have b9 : ((k : Int) == 9) = true := beqT (by omega)
         have b1 : decide (1 < (c : Int)) = false := decide_eq_false (by omega)
         have b0 : decide (0 < k) = true := decide_eq_true (by omega)
         have bc : ((c : Int) == 0) = true := beqT (by omega)
         clear hA
         go_wp2_with (go_at_call 92; refine (rfail_walk _ _ _ _ _ hrow).mono ?_; rintro e w' ⟨rfl, rfl⟩)
         go_ret
         exact ⟨_, 0, .error 1, rfl, ⟨rfl, by decide, by decide⟩, grown_setCell w ⟨R, 1, none⟩ _, RSt.fail hrow hv hvb hb hl 1 (by decide) (by decide), Rel.of_err (by unfold pInt; rw [HE.out])⟩
       · clear hbad
         have hok : ¬ ((k = 9 ∧ 1 < c) ∨ (0 < k ∧ c = 0)) := by omega
         obtain ⟨st1, st2, st3, st4, st5⟩ := rdI_step X k hk9 HX.out c hcb hok
         have HN : Hid (rdI l' 0 0 = if c < 128 then .ok (X + c % 128 * 2 ^ (7 * k), l'.drop (k + 1)) else rdI (l'.drop (k + 1)) (k + 1) (X + c % 128 * 2 ^ (7 * k))) := by
           rw [← HR.out, rdI, if_neg hok]; exact hid rfl
         clear hok HR HX
         obtain ⟨y, hy, hy2⟩ : ∃ y : Nat, IntKind.u64.wrap ((c : Int) % 128 * 2 ^ (7 * k)) = (y : Int) ∧ y = c % 128 * 2 ^ (7 * k) := by
           refine ⟨_, ?_, rfl⟩
           rw [IntKind.wrap_u64, show (c : Int) % 128 * 2 ^ (7 * k) = ((c % 128 * 2 ^ (7 * k) : Nat) : Int) by rw [Int.natCast_mul, Int.natCast_pow]; rfl]
           omega
         obtain ⟨Z, hZ, hZ2⟩ : ∃ Z : Nat, bits BinOp.or IntKind.u64 (X : Int) (y : Int) = (Z : Int) ∧ Z = X + y := ⟨_, u64_or_nat X y st4 (by omega), by rw [hy2]; exact st1⟩
         rw [← hy2, ← hZ2] at HN st2 st5
         have HZ := hid st5
         clear st1 st3 st4 st5 hy2 hZ2
         obtain ⟨q, hq, hq2⟩ : ∃ q : Nat, bits BinOp.xor IntKind.u64 IntKind.u64.max ((Z : Int) / 2) = (q : Int) ∧ q = 18446744073709551615 - Z / 2 := by
           have := u64_not (Z / 2) (by omega)
           rw [Int.natCast_ediv] at this
           exact ⟨_, this, rfl⟩
         have hw1 : IntKind.i64.wrap (q : Int) = -1 - (Z : Int) / 2 := by rw [IntKind.wrap_i64]; omega
         have hw2 : wrap64 (q : Int) = -1 - (Z : Int) / 2 := by rw [← IntWalk.i64_left]; exact hw1
         have HW := hid hw2
         clear hq2 hw1 hw2
         have hcut := fun ao => Sl.cut (k := k + 1) hv rfl (by omega) ao
         have HC := hid hcut
         clear hcut
         have fin : ∀ (ao : Option Addr), c < 128 → (¬ cap = k + 1 → ao = some ⟨blk, off + (k + 1), none⟩) → (∃ o, ao = some ⟨blk, o, none⟩) → ∀ n : Int, n = unzig Z →
             RdPost 33 L w R pInt (.ok l') repInt (.returned (.int .i64 n)) (w.setCell ⟨R, 0, none⟩ (.slice ao (l'.length - (k + 1)) (cap - (k + 1)))) := by
           intro ao hc1 h1 h2 n hn
           obtain ⟨h3, h4⟩ := HC.out ao h1 h2
           have hpi : pInt l' = .ok (unzig Z, l'.drop (k + 1)) := by unfold pInt; rw [HN.out, if_pos hc1]
           have hr := pInt_range hb hpi
           refine ⟨_, n, .ok (l'.drop (k + 1)), rfl, ⟨rfl, by rw [hn]; exact hr.1, by rw [hn]; exact hr.2⟩, grown_setCell w ⟨R, 0, none⟩ _, RSt.next hrow h3 (LoR.of_eq (h4.trans rfl) hvb) (fun b hb' => hb b (List.mem_of_mem_drop hb')) (by rw [List.length_drop]; omega), ?_⟩
           rw [hn]
           exact Rel.of_ok hpi
         have FIN := hid fin
         clear fin
         rcases hC with ⟨h1, h2, h3⟩ | h1 | ⟨h1, h2, h3⟩
         · have b9 : ((k : Int) == 9) = true := beqT (by omega)
           have b1 : decide (1 < (c : Int)) = false := decide_eq_false (by omega)
           have b0 : decide (0 < k) = true := decide_eq_true (by omega)
           have bc : ((c : Int) == 0) = false := beqF (by omega)
           clear h1
           have hc1 : c < 128 := by omega
           rcases Nat.mod_two_eq_zero_or_one Z with hm3 | hm3
           · have bm : ((Z : Int) % 2 == 1) = false := z_even hm3
             have hn : (Z : Int) / 2 = unzig Z := unzig_even hm3
             have HNN := hid hn
             clear hn hm3
             by_cases hcap : cap = k + 1
             · subst hcap
               have F := FIN.out (some ⟨blk, off, none⟩) hc1 (by intro h; simp at h) ⟨_, rfl⟩ _ HNN.out
               rw [Nat.sub_self, show l'.length - (k + 1) = 0 by omega] at F
               have FF := hid F
               clear F
               go_wp2
               all_goals go_ret
               all_goals exact FF.out
             · go_wp2
               all_goals go_ret
               all_goals exact FIN.out (some ⟨blk, off + (k + 1), none⟩) hc1 (fun _ => rfl) ⟨_, rfl⟩ _ HNN.out
           · have bm : ((Z : Int) % 2 == 1) = true := z_odd hm3
             have hn : wrap64 (q : Int) = unzig Z := HW.out.trans (unzig_odd hm3)
             have HNN := hid hn
             clear hn hm3
             by_cases hcap : cap = k + 1
             · subst hcap
               have F := FIN.out (some ⟨blk, off, none⟩) hc1 (by intro h; simp at h) ⟨_, rfl⟩ _ HNN.out
               rw [Nat.sub_self, show l'.length - (k + 1) = 0 by omega] at F
               have FF := hid F
               clear F
               go_wp2
               all_goals go_ret
               all_goals exact FF.out
             · go_wp2
               all_goals go_ret
               all_goals exact FIN.out (some ⟨blk, off + (k + 1), none⟩) hc1 (fun _ => rfl) ⟨_, rfl⟩ _ HNN.out
         · have b9 : ((k : Int) == 9) = false := beqF (by omega)
           have b0 : decide (0 < k) = false := decide_eq_false (by omega)
           clear h1
           by_cases hc1 : c < 128
           · rcases Nat.mod_two_eq_zero_or_one Z with hm3 | hm3
             · have bm : ((Z : Int) % 2 == 1) = false := z_even hm3
               have hn : (Z : Int) / 2 = unzig Z := unzig_even hm3
               have HNN := hid hn
               clear hn hm3
               by_cases hcap : cap = k + 1
               · subst hcap
                 have F := FIN.out (some ⟨blk, off, none⟩) hc1 (by intro h; simp at h) ⟨_, rfl⟩ _ HNN.out
                 rw [Nat.sub_self, show l'.length - (k + 1) = 0 by omega] at F
                 have FF := hid F
                 clear F
                 go_wp2
                 all_goals go_ret
                 all_goals exact FF.out
               · go_wp2
                 all_goals go_ret
                 all_goals exact FIN.out (some ⟨blk, off + (k + 1), none⟩) hc1 (fun _ => rfl) ⟨_, rfl⟩ _ HNN.out
             · have bm : ((Z : Int) % 2 == 1) = true := z_odd hm3
               have hn : wrap64 (q : Int) = unzig Z := HW.out.trans (unzig_odd hm3)
               have HNN := hid hn
               clear hn hm3
               by_cases hcap : cap = k + 1
               · subst hcap
                 have F := FIN.out (some ⟨blk, off, none⟩) hc1 (by intro h; simp at h) ⟨_, rfl⟩ _ HNN.out
                 rw [Nat.sub_self, show l'.length - (k + 1) = 0 by omega] at F
                 have FF := hid F
                 clear F
                 go_wp2
                 all_goals go_ret
                 all_goals exact FF.out
               · go_wp2
                 all_goals go_ret
                 all_goals exact FIN.out (some ⟨blk, off + (k + 1), none⟩) hc1 (fun _ => rfl) ⟨_, rfl⟩ _ HNN.out
           · have h8 := (HZ.out hc1).1
             go_wp2
             go_round
             case rel => exact ⟨k + 1, Z, by omega, by omega, (HZ.out hc1).2, by rw [HN.out, if_neg hc1], by go_num, by go_num⟩
             case measure => simp [intOf]; omega
         · have b9 : ((k : Int) == 9) = false := beqF (by omega)
           have b0 : decide (0 < k) = true := decide_eq_true (by omega)
           have bc : ((c : Int) == 0) = false := beqF (by omega)
           by_cases hc1 : c < 128
           · rcases Nat.mod_two_eq_zero_or_one Z with hm3 | hm3
             · have bm : ((Z : Int) % 2 == 1) = false := z_even hm3
               have hn : (Z : Int) / 2 = unzig Z := unzig_even hm3
               have HNN := hid hn
               clear hn hm3
               by_cases hcap : cap = k + 1
               · subst hcap
                 have F := FIN.out (some ⟨blk, off, none⟩) hc1 (by intro h; simp at h) ⟨_, rfl⟩ _ HNN.out
                 rw [Nat.sub_self, show l'.length - (k + 1) = 0 by omega] at F
                 have FF := hid F
                 clear F
                 go_wp2
                 all_goals go_ret
                 all_goals exact FF.out
               · go_wp2
                 all_goals go_ret
                 all_goals exact FIN.out (some ⟨blk, off + (k + 1), none⟩) hc1 (fun _ => rfl) ⟨_, rfl⟩ _ HNN.out
             · have bm : ((Z : Int) % 2 == 1) = true := z_odd hm3
               have hn : wrap64 (q : Int) = unzig Z := HW.out.trans (unzig_odd hm3)
               have HNN := hid hn
               clear hn hm3
               by_cases hcap : cap = k + 1
               · subst hcap
                 have F := FIN.out (some ⟨blk, off, none⟩) hc1 (by intro h; simp at h) ⟨_, rfl⟩ _ HNN.out
                 rw [Nat.sub_self, show l'.length - (k + 1) = 0 by omega] at F
                 have FF := hid F
                 clear F
                 go_wp2
                 all_goals go_ret
                 all_goals exact FF.out
               · go_wp2
                 all_goals go_ret
                 all_goals exact FIN.out (some ⟨blk, off + (k + 1), none⟩) hc1 (fun _ => rfl) ⟨_, rfl⟩ _ HNN.out
           · have h8 := (HZ.out hc1).1
             go_wp2
             go_round
             case rel => exact ⟨k + 1, Z, by omega, by omega, (HZ.out hc1).2, by rw [HN.out, if_neg hc1], by go_num, by go_num⟩
             case measure => simp [intOf]; omega
     · obtain rfl : k = l'.length := by omega
       go_wp2_with (go_at_call 92; refine (rfail_walk _ _ _ _ _ hrow).mono ?_; rintro e w' ⟨rfl, rfl⟩)
       go_ret
       exact ⟨_, 0, .error 100, rfl, ⟨rfl, by decide, by decide⟩, grown_setCell w ⟨R, 1, none⟩ _, RSt.fail hrow hv hvb hb hl 100 (by decide) (by decide), Rel.of_err (by unfold pInt; rw [← hrd, List.drop_length]; rfl)⟩
end
/-! ## Enc -/
section
open Go.RowKit
abbrev I64 (n : Int) : Prop := -9223372036854775808 ≤ n ∧ n ≤ 9223372036854775807
structure Cd {α : Type} (p : Parser α) (b : List Nat) (x : α) : Prop where
 rt : ∀ rest, p (b ++ rest) = .ok (x, rest)
 cut : ∀ l t, b = l ++ t → t ≠ [] → p l = .error 100
theorem Cd.bind {α β : Type} {p : Parser α} {q : α → Parser β} {b b' : List Nat} {x : α} {y : β} (h : Cd p b x) (k : Cd (q x) b' y) : Cd (pBind p q) (b ++ b') y := by
 refine ⟨fun rest => ?_, fun l t hl ht => ?_⟩
 · unfold pBind
   rw [List.append_assoc, h.rt]
   exact k.rt rest
 · unfold pBind
   rcases List.append_eq_append_iff.1 hl with ⟨m, h1, h2⟩ | ⟨m, h1, h2⟩
   · subst h1
     rw [h.rt]
     exact k.cut m t h2 ht
   · by_cases hm : m = []
     · subst hm
       simp only [List.append_nil] at h1
       have h2' : b' = t := by simpa using h2.symm
       subst h1
       have := h.rt []
       rw [List.append_nil] at this
       rw [this]
       exact k.cut [] b' rfl (by rw [h2']; exact ht)
     · rw [h.cut l m h1 hm]
theorem Cd.pure {α : Type} (x : α) : Cd (pPure x) [] x :=
 ⟨fun _ => rfl, fun l t h ht => by have := congrArg List.length h; have := List.length_pos_iff.2 ht; simp at *; omega⟩
theorem Cd.map {α β : Type} {p : Parser α} {b : List Nat} {x : α} (f : α → β) (h : Cd p b x) : Cd (pBind p fun a => pPure (f a)) b (f x) := by
 have := h.bind (q := fun a => pPure (f a)) (Cd.pure (f x))
 rwa [List.append_nil] at this
/-! ### integers -/
/-! ### bytes, texts, lists -/
theorem bytes_only {n : Nat} {l r x : List Nat} (h : pBytes n l = .ok (x, r)) : l = x ++ r ∧ x.length = n := by
 unfold pBytes at h
 split at h
 · rename_i hn
   simp only [Except.ok.injEq, Prod.mk.injEq] at h
   obtain ⟨rfl, rfl⟩ := h
   exact ⟨(List.take_append_drop _ _).symm, by simp; omega⟩
 · cases h
def pText (most : Int) : Parser ByteArray := pBind (pIntIn 0 most) fun n => pBind (pBytes n.toNat) fun b => pPure (bs b)
def pRep {α : Type} (p : Parser α) : Nat → Parser (List α)
 | 0 => pPure []
 | n + 1 => pBind p fun x => pBind (pRep p n) fun l => pPure (x :: l)
def pList {α : Type} (most : Int) (p : Parser α) : Parser (List α) := pBind (pIntIn 0 most) fun n => pRep p n.toNat
theorem rep_snoc {α : Type} {p : Parser α} : ∀ (k : Nat) {s s1 s2 : St} {l : List α} {x : α}, Rel (pRep p k) s l s1 → Rel p s1 x s2 → Rel (pRep p (k + 1)) s (l ++ [x]) s2
 | 0, s, s1, s2, l, x, h, hx => by
   have : s1 = s ∧ (∀ b, s = .ok b → l = []) := by
     unfold Rel pRep pPure at h
     cases s with
     | error e => exact ⟨h, fun b hb => by cases hb⟩
     | ok b => simp only at h; exact ⟨h.2, fun _ _ => h.1.symm⟩
   obtain ⟨rfl, hl⟩ := this
   cases s1 with
   | error e => exact hx
   | ok b =>
     rw [hl b rfl]
     exact hx.bind (Rel.map _ (Rel.pure [] s2))
 | k + 1, s, s1, s2, l, x, h, hx => by
   cases s with
   | error e => have := h.dead; subst this; exact hx
   | ok b =>
     unfold Rel at h
     simp only at h
     unfold pRep pBind at h
     cases hp : p b with
     | error e =>
       rw [hp] at h; simp only at h; subst h
       have := hx.dead; subst this
       refine Rel.of_err ?_
       unfold pRep pBind; rw [hp]
     | ok z =>
       obtain ⟨y, m⟩ := z
       rw [hp] at h
       simp only at h
       cases hr : pRep p k m with
       | error e =>
         rw [hr] at h; simp only at h; subst h
         have := hx.dead; subst this
         have h2 : Rel (pRep p (k + 1)) (.ok m) ([] ++ [x]) (.error e) := by
           have h3 : Rel (pRep p k) (.ok m) ([] : List α) (.error e) := Rel.of_err hr
           exact rep_snoc k h3 hx
         refine Rel.of_err ?_
         have h2 := h2.err
         unfold pRep pBind; rw [hp]; simp only; rw [h2]
       | ok z =>
         obtain ⟨ys, m2⟩ := z
         rw [hr] at h
         simp only [pPure] at h
         obtain ⟨rfl, rfl⟩ := h
         have h3 : Rel (pRep p k) (.ok m) ys (.ok m2) := Rel.of_ok hr
         have h2 := rep_snoc k h3 hx
         cases s2 with
         | error e =>
           refine Rel.of_err ?_
           have h2 := h2.err
           rw [pRep]
           unfold pBind; rw [hp]; simp only; rw [h2]
         | ok m3 =>
           refine Rel.of_ok ?_
           have h2 := h2.ok
           rw [pRep]
           unfold pBind; rw [hp]; simp only; rw [h2]; rfl
theorem rep_more {α : Type} {p : Parser α} : ∀ (k n : Nat) (b : List Nat) (e : Nat), k ≤ n → pRep p k b = .error e → pRep p n b = .error e
 | 0, _, b, e, _, h => by simp [pRep, pPure] at h
 | k + 1, 0, b, e, hk, h => by omega
 | k + 1, n + 1, b, e, hk, h => by
   unfold pRep pBind at h ⊢
   cases hp : p b with
   | error e' => rw [hp] at h; exact h
   | ok z =>
     obtain ⟨x, m⟩ := z
     rw [hp] at h
     simp only at h ⊢
     cases hr : pRep p k m with
     | error e' =>
       rw [hr] at h
       simp only [Except.error.injEq] at h
       subst h
       rw [rep_more k n m e' (by omega) hr]
     | ok z => rw [hr] at h; simp [pPure] at h
theorem rep_err {α : Type} {p : Parser α} {k n : Nat} (hk : k ≤ n) {s : St} {l l' : List α} {e : Nat} (h : Rel (pRep p k) s l (.error e)) : Rel (pRep p n) s l' (.error e) := by
 cases s with
 | error e' => exact h
 | ok b => exact Rel.of_err (rep_more k n b e hk h.err)
end
/-! ## Read64 -/
section
open Go.RowKit
theorem clone_walk (v : Value) (xs : List Nat) (w : World) (hv : Sl w 1 v xs.length (bv xs)) (hl : xs.length ≤ 1099511627776) :
   Calls Try.prog 165 #[v] w fun e w' => ∃ v', e = .returned v' ∧ Sl w' 1 v' xs.length (bv xs) ∧ Fresh w w' v' := by
 obtain ⟨ao, cap, rfl, hnc, hcm⟩ := hv.shape
 have hE := @Lib.run_eql_slice_nil Try.prog
 have hown : Own (w.alloc (.cells #[] 5)) 5 1 (.slice (some ⟨w.heap.size, 0, none⟩) 0 0) 0 [] := World.ownsRow_lit w #[] 0 (Nat.zero_le _) (Nat.zero_le _) rfl
 have hv' := hv.kept (World.grownBy_alloc w (.cells #[] 5) none) (by cases h : (Value.slice ao xs.length cap).ownBlock <;> simp)
 cases ao with
 | none =>
   go_enter Try.func165, Try.ntmps165
   go_wp2
   go_ret
   have h0 : xs.length = 0 := by
     obtain ⟨_, ao', cap', h1, h2, h3, h4, _⟩ := hv
     simp only [Value.slice.injEq] at h1
     obtain ⟨rfl, _, rfl⟩ := h1
     have := h4 rfl; omega
   obtain rfl := List.eq_nil_of_length_eq_zero h0
   exact ⟨nilS, rfl, Sl.nil _ _, Step.refl _ _⟩
 | some a =>
   go_enter Try.func165, Try.ntmps165
   go_wp2_with (at_builtin; go_must (refine wpList_app bytesT rfl _ _ rfl _ _ _ rfl hown _ _ _ rfl hv' (bv_cells _) (by omega) ?_; intro v' w' hown' hg'))
   go_ret
   exact ⟨_, rfl, Sl.of_own (by simpa using hown'), (Fresh.lit _ _ _ _).trans hg'⟩
end
/-! ## Rd1 -/
section
open Go.RowKit
theorem RSt.row {T : TypeId} {L : Nat} {w : World} {R : Nat} {s : St} (h : RSt T L w R s) : ∃ v e, w.heap[R]? = some (.cells #[v, .int .i64 e] T (0, 0)) ∧ (∀ l, s = .ok l → e = 0 ∧ Sl w 1 v l.length (bv l) ∧ LoR v L R ∧ (∀ b ∈ l, b < 256) ∧ l.length ≤ 1099511627776) ∧ (∀ n, s = .error n → e = (n : Int) ∧ n ≠ 0) := by
 obtain ⟨v, l, h1, h2, h3, h4, h5⟩ := h
 cases s with
 | ok r => obtain ⟨rfl, h1⟩ := h1; exact ⟨v, 0, h1, fun l hl => (by cases hl; exact ⟨rfl, h2, h3, h4, h5⟩), fun n hn => (by cases hn)⟩
 | error e => exact ⟨v, e, h1.2.2, fun l hl => (by cases hl), fun n hn => (by cases hn; exact ⟨rfl, h1.1⟩)⟩
theorem RSt.fail' {T : TypeId} {L : Nat} {w : World} {R : Nat} {l : List Nat} (h : RSt T L w R (.ok l)) (e : Nat) (he : e ≠ 0) (he2 : e ≤ 200) : RSt T L (w.setCell ⟨R, 1, none⟩ (.int .i64 e)) R (.error e) := by
 obtain ⟨v, l', ⟨rfl, h1⟩, h2, h3, h4, h5⟩ := h
 exact RSt.fail h1 h2 h3 h4 h5 e he he2
theorem Rel.inIn {a b n : Int} {s s1 : St} (h : Rel pInt s n s1) : (∀ r, s1 = .ok r → a ≤ n ∧ n ≤ b → Rel (pIntIn a b) s n s1) ∧ (∀ r, s1 = .ok r → (n < a ∨ b < n) → ∀ x, Rel (pIntIn a b) s x (.error 1)) ∧ (∀ e, s1 = .error e → ∀ x, Rel (pIntIn a b) s x s1) := by
 refine ⟨fun r hr hn => ?_, fun r hr hn x => ?_, fun e he x => ?_⟩
 · subst hr
   cases s with
   | error e => exact absurd h.dead (by simp)
   | ok l => refine Rel.of_ok ?_; have := h.ok; unfold pIntIn; rw [this]; simp only; rw [if_neg (by omega)]
 · subst hr
   cases s with
   | error e => exact absurd h.dead (by simp)
   | ok l => refine Rel.of_err ?_; have := h.ok; unfold pIntIn; rw [this]; simp only; rw [if_pos hn]
 · subst he
   cases s with
   | error e' => exact h
   | ok l => refine Rel.of_err ?_; have := h.err; unfold pIntIn; rw [this]
theorem intIn_walk {L : Nat} (R : Nat) (s : St) (a b : Int) (w : World) (h : RSt 201 L w R s) :
   Calls Try.prog 169 #[.pointer (some ⟨R, 0, none⟩), .int .i64 a, .int .i64 b] w (RdPost 201 L w R (pIntIn a b) s repInt) := by
 go_enter Try.func169, Try.ntmps169
 go_wp2_with fail
 refine (int_walk R s _ h).mono ?_
 rintro e w1 ⟨v, n, s1, rfl, ⟨rfl, hn⟩, hg, hst, hrel⟩
 obtain ⟨r1, r2, r3⟩ := hrel.inIn (a := a) (b := b)
 have HG := hid hg
 have HST := hid hst
 cases s1 with
 | error er =>
   obtain ⟨v3, l3, ⟨he, he2, hrow⟩, _⟩ := hst
   obtain ⟨c0, c1, f0, f1⟩ := row2 hrow
   have be : ((er : Int) == 0) = false := beqF (by omega)
   have be' : ((er : Int) != 0) = true := by simp; omega
   have H3 := hid (r3 er rfl 0)
   clear r1 r2 r3 hrel hg hrow he he2
   go_wp2
   go_ret
   exact ⟨_, 0, _, rfl, ⟨rfl, by decide, by decide⟩, HG.out, HST.out, H3.out⟩
 | ok l =>
   obtain ⟨v3, l3, ⟨rfl, hrow⟩, _⟩ := hst
   obtain ⟨c0, c1, f0, f1⟩ := row2 hrow
   have H1 := hid (r1 l rfl)
   have H2 := hid (r2 l rfl)
   clear r1 r2 r3 hrel hg
   have HR := hid hrow
   have fin : n < a ∨ b < n → RdPost 201 L w R (pIntIn a b) s repInt (.returned (.int .i64 0)) (w1.setCell ⟨R, 1, none⟩ (.int .i64 1)) := fun hb =>
     ⟨_, 0, .error 1, rfl, ⟨rfl, by decide, by decide⟩, grown_trans HG.out (grown_setCell w1 ⟨R, 1, none⟩ _), HST.out.fail' 1 (by decide) (by decide), H2.out hb 0⟩
   have FIN := hid fin
   clear fin
   by_cases ha : n < a
   · have d1 : decide (n < a) = true := decide_eq_true ha
     have F := hid (FIN.out (.inl ha))
     clear FIN ha
     go_wp2_with (go_at_call 166; refine (fail_walk _ _ _ _ _ hrow).mono ?_; rintro e w' ⟨rfl, rfl⟩)
     go_ret
     exact F.out
   · have d1 : decide (n < a) = false := decide_eq_false ha
     by_cases hb : b < n
     · have d2 : decide (b < n) = true := decide_eq_true hb
       have F := hid (FIN.out (.inr hb))
       clear FIN ha hb
       go_wp2_with (go_at_call 166; refine (fail_walk _ _ _ _ _ hrow).mono ?_; rintro e w' ⟨rfl, rfl⟩)
       go_ret
       exact F.out
     · have d2 : decide (b < n) = false := decide_eq_false hb
       have F := hid (H1.out ⟨by omega, by omega⟩)
       clear FIN ha hb
       go_wp2
       go_ret
       exact ⟨_, n, _, rfl, ⟨rfl, hn⟩, HG.out, HST.out, F.out⟩
theorem Sl.drop {w : World} {ao : Option Addr} {cap k : Nat} {l : List Nat} (h : Sl w 1 (.slice ao l.length cap) l.length (bv l)) (hk : k ≤ l.length) :
   Sl w 1 (.slice (Option.map (fun x => x.add k) ao) (l.length - k) (cap - k)) (l.drop k).length (bv (l.drop k)) ∧ (.slice (Option.map (fun x => x.add k) ao) (l.length - k) (cap - k) : Value).ownBlock = (.slice ao l.length cap : Value).ownBlock := by
 obtain ⟨hl, ao', cap', hv, h1, h2, h3, h4⟩ := h
 simp only [Value.slice.injEq] at hv
 obtain ⟨rfl, _, rfl⟩ := hv
 have hadd : ∀ a : Addr, a.spot = none → (a.add k).spot = none ∧ (a.add k).block = a.block ∧ (a.add k).off = a.off + k := by
   intro a ha
   unfold Addr.add
   split
   · rename_i h0; subst h0; exact ⟨ha, rfl, rfl⟩
   · exact ⟨rfl, rfl, rfl⟩
 refine ⟨⟨by simp [bv], _, _, by rw [List.length_drop], by simp; omega, by omega, fun h => ?_, fun a ha => ?_⟩, ?_⟩
 · cases ao with
   | none => have := h3 rfl; omega
   | some a => cases h
 · cases ao with
   | none => cases ha
   | some b =>
     obtain ⟨hs, hc⟩ := h4 b rfl
     obtain ⟨q1, q2, q3⟩ := hadd b hs
     obtain rfl := Option.some.inj ha
     refine ⟨q1, fun j u hu => ?_⟩
     have := hc (k + j) u (by rw [← hu]; simp [bv])
     rw [q2, q3]
     simpa [Nat.add_assoc] using this
 · cases ao with
   | none => rfl
   | some b => simp [Value.ownBlock, (hadd b (h4 b rfl).1).2.1]
theorem Sl.drop0 {w : World} {ao : Option Addr} {k cap : Nat} {l : List Nat} (h : Sl w 1 (.slice ao l.length cap) l.length (bv l)) (hk : k ≤ l.length) (hck : cap = k) :
   Sl w 1 (.slice ao (l.length - k) 0) (l.drop k).length (bv (l.drop k)) ∧ (.slice ao (l.length - k) 0 : Value).ownBlock = (.slice ao l.length cap : Value).ownBlock := by
 subst hck
 obtain ⟨hl, ao', cap', hv, h1, h2, h3, h4⟩ := h
 simp only [Value.slice.injEq] at hv
 obtain ⟨rfl, _, rfl⟩ := hv
 have e : l.drop cap = [] := List.drop_of_length_le (by omega)
 refine ⟨?_, by cases ao <;> rfl⟩
 rw [e]
 refine ⟨rfl, ao, 0, by simp; omega, Nat.le_refl _, Nat.zero_le _, fun _ => rfl, fun a ha => ⟨(h4 a ha).1, fun j u hu => by simp at hu⟩⟩
theorem Sl.take {w : World} {ao : Option Addr} {cap k : Nat} {l : List Nat} (h : Sl w 1 (.slice ao l.length cap) l.length (bv l)) (hk : k ≤ l.length) :
   Sl w 1 (.slice ao k k) (l.take k).length (bv (l.take k)) ∧ (.slice ao k k : Value).ownBlock = (.slice ao l.length cap : Value).ownBlock := by
 obtain ⟨hl, ao', cap', hv, h1, h2, h3, h4⟩ := h
 simp only [Value.slice.injEq] at hv
 obtain ⟨rfl, _, rfl⟩ := hv
 have e : (l.take k).length = k := by simp; omega
 refine ⟨?_, by cases ao <;> rfl⟩
 rw [e]
 refine ⟨by rw [bv_length, e]; omega, ao, k, rfl, Nat.le_refl _, by omega, fun h => by have := h3 h; omega, fun a ha => ⟨(h4 a ha).1, fun j u hu => (h4 a ha).2 j u ?_⟩⟩
 have hj := (List.getElem?_eq_some_iff.1 hu).1
 rw [bv_length, e] at hj
 rw [← hu]
 simp [bv, List.getElem?_take]
 intro hjj; omega
theorem RSt.next' {T : TypeId} {L : Nat} {w : World} {R : Nat} {l l' : List Nat} (h : RSt T L w R (.ok l)) (hl' : ∀ b ∈ l', b < 256) (hn : l'.length ≤ l.length) {v' : Value} (hv : Sl w 1 v' l'.length (bv l')) (hvb : LoR v' L R) : RSt T L (w.setCell ⟨R, 0, none⟩ v') R (.ok l') := by
 obtain ⟨v, l0, ⟨rfl, h1⟩, h2, h3, h4, h5⟩ := h
 exact RSt.next h1 hv hvb hl' (by omega)
def repBytes (w : World) (v : Value) (x : List Nat) : Prop := Sl w 1 v x.length (bv x) ∧ (∀ b ∈ x, b < 256) ∧ x.length ≤ 1099511627776
theorem bytes_walk {L : Nat} (R : Nat) (s : St) (n : Int) (w : World) (h : RSt 201 L w R s) (hn : I64 n) (hs : ∀ l, s = .ok l → 0 ≤ n) :
   Calls Try.prog 168 #[.pointer (some ⟨R, 0, none⟩), .int .i64 n] w (RdPost 201 L w R (pBytes n.toNat) s repBytes) := by
 have HST := hid h
 cases s with
 | error er =>
   obtain ⟨v3, l3, ⟨he, he2, hrow⟩, _⟩ := h
   obtain ⟨c0, c1, f0, f1⟩ := row2 hrow
   have be : ((er : Int) == 0) = false := beqF (by omega)
   have be' : ((er : Int) != 0) = true := by simp; omega
   clear hrow he he2 hs hn
   go_enter Try.func168, Try.ntmps168
   go_wp2
   go_ret
   exact ⟨_, [], _, rfl, ⟨Sl.nil _ _, by simp⟩, World.grownBy.refl _ _, HST.out, rfl⟩
 | ok l =>
   obtain ⟨v3, l3, ⟨rfl, hrow⟩, hsl, hvb, hb, hl⟩ := h
   obtain ⟨c0, c1, f0, f1⟩ := row2 hrow
   obtain ⟨k, rfl⟩ := Int.eq_ofNat_of_zero_le (hs _ rfl)
   clear hs
   rw [Int.toNat_natCast]
   obtain ⟨ao, cap, rfl, hnc, hcm⟩ := hsl.shape
   by_cases hk : l.length < k
   · have d1 : decide (l.length < k) = true := decide_eq_true hk
     have HE := hid hk
     clear hk
     go_enter Try.func168, Try.ntmps168
     go_wp2_with (go_at_call 166; refine (fail_walk _ _ _ _ _ hrow).mono ?_; rintro e w' ⟨rfl, rfl⟩)
     go_ret
     exact ⟨_, [], .error 100, rfl, ⟨Sl.nil _ _, by simp⟩, grown_setCell w ⟨R, 1, none⟩ _, HST.out.fail' 100 (by decide) (by decide), Rel.of_err (by unfold pBytes; rw [if_neg (by have := HE.out; omega)])⟩
   · have d1 : decide (l.length < k) = false := decide_eq_false hk
     have hkl : k ≤ l.length := by omega
     clear hk
     go_enter Try.func168, Try.ntmps168
     go_wp2
     all_goals go_ret
     all_goals
       have hb2 : ∀ b ∈ l.drop k, b < 256 := fun b hb' => hb b (List.mem_of_mem_drop hb')
       have hb1 : ∀ b ∈ l.take k, b < 256 := fun b hb' => hb b (List.mem_of_mem_take hb')
       obtain ⟨t1, t2⟩ := hsl.take hkl
       have hvt := LoR.of_eq t2 hvb
     · obtain ⟨q1, q2⟩ := hsl.drop0 hkl (by assumption)
       have hg := grown_setCell w ⟨R, 0, none⟩ (.slice ao (l.length - k) 0)
       exact ⟨_, l.take k, .ok (l.drop k), rfl, ⟨t1.kept hg (.inr (hvt.ne (Nat.le_refl _))), hb1, by rw [List.length_take]; omega⟩, hg, HST.out.next' hb2 (by simp) q1 (LoR.of_eq q2 hvb), Rel.of_ok (by unfold pBytes; rw [if_pos hkl])⟩
     · obtain ⟨q1, q2⟩ := hsl.drop hkl
       have hg := grown_setCell w ⟨R, 0, none⟩ (.slice (Option.map (fun x => x.add k) ao) (l.length - k) (cap - k))
       exact ⟨_, l.take k, .ok (l.drop k), rfl, ⟨t1.kept hg (.inr (hvt.ne (Nat.le_refl _))), hb1, by rw [List.length_take]; omega⟩, hg, HST.out.next' hb2 (by simp) q1 (LoR.of_eq q2 hvb), Rel.of_ok (by unfold pBytes; rw [if_pos hkl])⟩
def repText (_ : World) (v : Value) (t : ByteArray) : Prop := v = .string t ∧ t.size ≤ 1099511627776
theorem inIn_ok {a b n : Int} {s : St} {r : List Nat} (h : Rel (pIntIn a b) s n (.ok r)) : a ≤ n ∧ n ≤ b := by
 cases s with
 | error e => exact absurd h.dead (by simp)
 | ok l =>
   have h := h.ok
   unfold pIntIn at h
   cases hp : pInt l with
   | error e => rw [hp] at h; cases h
   | ok z =>
     obtain ⟨m, q⟩ := z
     rw [hp] at h
     simp only at h
     split at h
     · cases h
     · simp only [Except.ok.injEq, Prod.mk.injEq] at h
       omega
theorem text_walk {L : Nat} (R : Nat) (s : St) (most : Int) (w : World) (h : RSt 201 L w R s) (_ : I64 most) :
   Calls Try.prog 97 #[.pointer (some ⟨R, 0, none⟩), .int .i64 most] w (RdPost 201 L w R (pText most) s repText) := by
 go_enter Try.func97, Try.ntmps97
 go_wp2_with fail
 refine (intIn_walk R s 0 most _ h).mono ?_
 rintro e w1 ⟨v, n, s1, rfl, ⟨rfl, hn⟩, hg, hst, hrel⟩
 have HR := hid hrel
 have HG := hid hg
 have hpos : ∀ l, s1 = .ok l → 0 ≤ n := fun l hl => by subst hl; exact (inIn_ok hrel).1
 clear hrel hg
 go_wp2_with fail
 refine (bytes_walk R s1 n _ hst hn hpos).mono ?_
 rintro e w2 ⟨v2, x, s2, rfl, ⟨hx, hxb, hxl⟩, hg2, hst2, hrel2⟩
 have hc := run_conv (P := Try.prog) 22 9 5 Try.underlying22 Try.underlying5 Try.underlying9 hx
 have H2 := hid hrel2
 have HG2 := hid hg2
 have HST2 := hid hst2
 have HX := hid hx
 clear hrel2 hg2 hst2 hx hpos hst
 go_wp2
 go_ret
 exact ⟨_, bs x, s2, rfl, ⟨rfl, by rw [bs_size]; exact hxl⟩, grown_trans HG.out HG2.out, HST2.out, HR.out.bind (H2.out.bind (Rel.pure _ _))⟩
end
/-! ## Ty -/
section
open Go.RowKit
def ptr (b : Nat) : Value := .pointer (some ⟨b, 0, none⟩)
theorem row_of {w w' : World} {g : Nat} {o : Obj} {row : Option Nat} (hg : w.grownBy w' row) (h : w.heap[g]? = some o) (hne : some g ≠ row) : w'.heap[g]? = some o :=
 (hg.block g (Array.getElem?_eq_some_iff.1 h).1 hne).trans h
structure TY (P : Program) (T : TypeId) (cs : List Value) (v : Value) : Prop where
 size : (P.info? T).map (·.size) = some cs.length
 cells : v.cells = cs.toArray
 one : ∀ c ∈ cs, c.oneCell' = true
 load : ∀ (w : World) (b o : Nat), w.rangeAt b o cs → (loadVar T ⟨b, o, none⟩).run P w = .ok v w
theorem TY.agg {P : Program} {T : TypeId} {cs : List Value} {d : TypeDesc} (hu : P.underlying T = some d) (hd : d.isRow = true) (hi : (P.info? T).map (·.size) = some cs.length) (h1 : ∀ c ∈ cs, c.oneCell' = true) : TY P T cs (.agg cs.toArray) :=
 ⟨hi, rfl, h1, fun w b o hr => run_loadVar_mid w b o T cs d hr hu hd hi⟩
theorem TY.one' {P : Program} {T : TypeId} {v : Value} {d : TypeDesc} (hu : P.underlying T = some d) (hd : d.isRow = false) (hi : (P.info? T).map (·.size) = some 1) (h1 : v.oneCell' = true) : TY P T [v] v := by
 refine ⟨hi, by cases v <;> first | rfl | (cases h1), by simpa using h1, fun w b o hr => ?_⟩
 have hc : w.cell? ⟨b, o, none⟩ = some v := hr 0 v rfl
 have hagg : (isAgg T).run P w = .ok false w := by
   unfold isAgg
   rw [Sem.run_bind, run_underlying hu w]
   cases d <;> simp_all
 simp [loadVar, Sem.run_bind, hagg, run_load, hc]
theorem rangeAt_row {w : World} {b : Nat} {cs : List Value} {t : TypeId} {fr : Nat × Nat} (h : w.heap[b]? = some (.cells cs.toArray t fr)) : w.rangeAt b 0 cs := fun j v hj => by
 rw [Nat.zero_add, cell_of_row w b j _ t fr h]
 simpa using hj
theorem TY.loads {P : Program} {T : TypeId} {cs : List Value} {v : Value} (h : TY P T cs v) {w : World} {b : Nat} {t : TypeId} {fr : Nat × Nat} (hb : w.heap[b]? = some (.cells cs.toArray t fr)) : (Instr.loadAt T (ptr b)).run P w = .ok v w := by
 simp only [Instr.loadAt, ptr, Instr.sureAddr, Sem.run_bind, Sem.run_pure, Result.andThen_ok, h.load w b 0 (rangeAt_row hb)]
theorem setCells_grown (b : Nat) : ∀ (vs : List Value) (o : Nat) (w : World), w.grownBy (w.setCells b o vs) (some b)
 | [], _, w => World.grownBy.refl _ _
 | v :: r, o, w => by
   rw [World.setCells]
   exact grown_trans (grown_setCell w ⟨b, o, none⟩ v) (setCells_grown b r (o + 1) _)
theorem setCells_row (b : Nat) (t : TypeId) : ∀ (vs : List Value) (o : Nat) (w : World) (pre post : List Value), o = pre.length → vs.length = post.length → w.heap[b]? = some (.cells (pre ++ post).toArray t (0, 0)) →
   (w.setCells b o vs).heap[b]? = some (.cells (pre ++ vs).toArray t (0, 0))
 | [], _, w, pre, post, _, hl, h => by
   obtain rfl : post = [] := List.eq_nil_of_length_eq_zero (by simpa using hl.symm)
   exact h
 | v :: r, o, w, pre, [], _, hl, _ => by simp at hl
 | v :: r, o, w, pre, x :: post, ho, hl, h => by
   rw [World.setCells]
   have := heap_setCell_same w b o _ t v h
   have e : ((pre ++ x :: post).toArray.setIfInBounds o v) = ((pre ++ [v]) ++ post).toArray := by
     subst ho
     simp
   rw [e] at this
   have := setCells_row b t r (o + 1) _ (pre ++ [v]) post (by simp [ho]) (by simpa using hl) this
   simpa using this
theorem TY.stores {P : Program} {T : TypeId} {cs : List Value} {v : Value} (h : TY P T cs v) {w : World} {b : Nat} {t : TypeId} {c0 : Array Value} (hb : w.heap[b]? = some (.cells c0 t (0, 0))) (hc : c0.size = cs.length) :
   (Instr.storeAt T (ptr b) v).run P w = .ok () (w.setCells b 0 cs) ∧ w.grownBy (w.setCells b 0 cs) (some b) ∧ (w.setCells b 0 cs).heap[b]? = some (.cells cs.toArray t (0, 0)) := by
 refine ⟨?_, setCells_grown b cs 0 w, ?_⟩
 · have := run_storeCells_cells (P := P) b 0 cs 0 w (fun j hj => by
     rw [cell_of_row w b _ _ t _ hb]
     have hj' : j < c0.size := by omega
     simp [hj']) (fun j hj => frozen_of_row w b _ _ t hb) h.one
   simp only [Instr.storeAt, ptr, Instr.sureAddr, Sem.run_bind, Sem.run_pure, Result.andThen_ok]
   have hs := h.size
   cases hq : P.info? T with
   | none => simp [hq] at hs
   | some i =>
     have hs' : i.size = cs.length := by simpa [hq] using hs
     simp only [Nat.add_zero] at this
     simp [storeVar, sizeOf, typeInfo, hq, h.cells, hs', this]
 · exact setCells_row b t cs 0 w [] c0.toList rfl (by simpa using hc.symm) (by simpa using hb)
end
/-! ## Data -/
section
open Go.RowKit
structure V where
 kind : Int
 int : Int
 text : ByteArray
structure Rec where
 row : List V
 seq : List Int
 day : Int
structure En where
 row : List V
 count : Int
structure Ch where
 kind : Int
 seq : Int
 day : Int
 table : Int
 row : List V
 key : V
 col : Int
 val : V
structure Ver where
 table : Int
 column : Int
 seq : Int
structure Src where
 table : Int
 seq : Int
structure Idf where
 ns : ByteArray
 val : V
structure Lnk where
 a : Idf
 b : Idf
 seq : Int
 rev : Bool
structure Hld where
 table : Int
 column : Int
 who : Idf
 seq : Int
 since : Int
 till : Int
structure Req where
 kind : Int
 who : Idf
 seq : Int
 day : Int
 deadline : Int
structure LE where
 kind : Int
 day : Int
 plan : Int
 step : Int
 req : Req
 lnk : Lnk
 hld : Hld
 vers : List Ver
 srcs : List Src
 root : List Nat
/-! ### values -/
def V.nul : V := ⟨0, 0, ByteArray.empty⟩
def V.ok (v : V) : Prop := (v.kind = 0 ∧ v.int = 0 ∧ v.text = ByteArray.empty) ∨ (v.kind = 1 ∧ -4294967296 ≤ v.int ∧ v.int ≤ 4294967296 ∧ v.text = ByteArray.empty) ∨ (v.kind = 2 ∧ v.int = 0 ∧ v.text.size ≤ 32)
instance (v : V) : Decidable v.ok := by unfold V.ok; infer_instance
def pV : Parser V := pBind (pIntIn 0 2) fun k => if k = 1 then pBind (pIntIn (-4294967296) 4294967296) fun n => pPure ⟨k, n, ByteArray.empty⟩ else if k = 2 then pBind (pText 32) fun t => pPure ⟨k, 0, t⟩ else pPure ⟨k, 0, ByteArray.empty⟩
/-! ### rows, records, bags -/
def pRow : Parser (List V) := pList 16 pV
def pRec : Parser Rec := pBind pRow fun row => pBind (pRep pInt row.length) fun seq => pBind pInt fun day => pPure ⟨row, seq, day⟩
def pEn : Parser En := pBind pRow fun row => pBind pInt fun c => pPure ⟨row, c⟩
def pBag : Parser (List En) := pList 4096 pEn
/-! ### changes -/
def pCh : Parser Ch := pBind pInt fun kind => pBind pInt fun seq => pBind pInt fun day => pBind pInt fun table => pBind pRow fun row => pBind pV fun key => pBind pInt fun col => pBind pV fun val => pPure ⟨kind, seq, day, table, row, key, col, val⟩
structure Ch.wf (c : Ch) : Prop where
 kind : I64 c.kind
 seq : I64 c.seq
 day : I64 c.day
 table : I64 c.table
 col : I64 c.col
/-! ### versions, sources -/
def pVer : Parser Ver := pBind pInt fun t => pBind pInt fun s => pBind pInt fun c => pPure ⟨t, c, s⟩
structure Ver.wf (v : Ver) : Prop where
 table : I64 v.table
 column : I64 v.column
 seq : I64 v.seq
def pVers : Parser (List Ver) := pList 512 pVer
def pSrc : Parser Src := pBind pInt fun t => pBind pInt fun s => pPure ⟨t, s⟩
structure Src.wf (v : Src) : Prop where
 table : I64 v.table
 seq : I64 v.seq
def pSrcs : Parser (List Src) := pList 512 pSrc
/-! ### identifiers, links, holds, requests -/
def pIdf : Parser Idf := pBind (pText 16) fun ns => pBind pV fun v => pPure ⟨ns, v⟩
def pLnk : Parser Lnk := pBind pIdf fun a => pBind pIdf fun b => pBind pInt fun s => pBind (pIntIn 0 1) fun r => pPure ⟨a, b, s, r == 1⟩
def pHld : Parser Hld := pBind pInt fun t => pBind pInt fun c => pBind pIdf fun w => pBind pInt fun s => pBind pInt fun f => pBind pInt fun u => pPure ⟨t, c, w, s, f, u⟩
structure Hld.wf (h : Hld) : Prop where
 table : I64 h.table
 column : I64 h.column
 seq : I64 h.seq
 since : I64 h.since
 till : I64 h.till
def pReq : Parser Req := pBind pInt fun k => pBind pIdf fun w => pBind pInt fun s => pBind pInt fun d => pBind pInt fun u => pPure ⟨k, w, s, d, u⟩
structure Req.wf (q : Req) : Prop where
 kind : I64 q.kind
 seq : I64 q.seq
 day : I64 q.day
 deadline : I64 q.deadline
/-! ### ledger entries -/
def z32 : List Nat := List.replicate 32 0
def Idf.zero : Idf := ⟨ByteArray.empty, V.nul⟩
def Req.zero : Req := ⟨0, Idf.zero, 0, 0, 0⟩
def Lnk.zero : Lnk := ⟨Idf.zero, Idf.zero, 0, false⟩
def Hld.zero : Hld := ⟨0, 0, Idf.zero, 0, 0, 0⟩
def LE.base (k d p s : Int) : LE := ⟨k, d, p, s, Req.zero, Lnk.zero, Hld.zero, [], [], z32⟩
def pLEt (k : Int) (b : LE) : Parser LE := if k = 1 then pBind pReq fun q => pPure { b with req := q } else if k = 2 then pBind pVers fun v => pBind pSrcs fun s => pPure { b with vers := v, srcs := s }
 else if k = 4 then pBind (pBytes 32) fun d => pPure { b with root := d } else if k = 6 then pBind pLnk fun l => pPure { b with lnk := l } else if k = 7 then pBind pHld fun h => pPure { b with hld := h } else pPure b
def pLE : Parser LE := pBind (pIntIn 1 7) fun k => pBind pInt fun d => pBind pInt fun p => pBind pInt fun s => pLEt k (LE.base k d p s)
structure LE.wf (e : LE) : Prop where
 kind : I64 e.kind
 day : I64 e.day
 plan : I64 e.plan
 step : I64 e.step
 req : e.req.wf
 lnk : I64 e.lnk.seq
 hld : e.hld.wf
 vers : ∀ v ∈ e.vers, v.wf
 srcs : ∀ v ∈ e.srcs, v.wf
 root : e.root.length = 32 ∧ ∀ b ∈ e.root, b < 256
end
/-! ## Read7 -/
section
open Go.RowKit
structure Res3 (wz w : World) (B : Nat) : Prop where
 os : w.os = wz.os
 tape : w.tape = wz.tape
 output : w.output = wz.output
 size : wz.heap.size ≤ w.heap.size
 block : ∀ k, k < wz.heap.size → k ≠ B → k ≠ B + 1 → k ≠ B + 1 + 1 → w.heap[k]? = wz.heap[k]?
theorem Res3.refl (w : World) (B : Nat) : Res3 w w B := ⟨rfl, rfl, rfl, Nat.le_refl _, fun _ _ _ _ _ => rfl⟩
theorem Res3.step {wz w w' : World} {B : Nat} (h : Res3 wz w B) {row : Option Nat} (hg : w.grownBy w' row) (hr : row = none ∨ row = some B ∨ row = some (B + 1) ∨ row = some (B + 1 + 1)) : Res3 wz w' B :=
 ⟨hg.os.trans h.os, hg.tape.trans h.tape, hg.output.trans h.output, Nat.le_trans h.size hg.size, fun k hk h0 h1 h2 =>
   (hg.block k (Nat.lt_of_lt_of_le hk h.size) (by rcases hr with rfl | rfl | rfl | rfl <;> simp <;> omega)).trans (h.block k hk h0 h1 h2)⟩
def ops7 (ps : String) (T tS tR tE tP K : Nat) : List Oper := [
 { dst := some 26, op := .load T (.tmp 4), type := T, pos := ps, after := #[], guard := none },
 { dst := some 27, op := .move (.tmp 7), type := tP, pos := ps, after := #[], guard := none },
 { dst := some 28, op := .nilCheck (.tmp 27), type := 0, pos := ps, after := #[{ on := 1, ground := .data }], guard := none },
 { dst := some 29, op := .fieldAddr tR (.tmp 28) 0, type := 0, pos := ps, after := #[{ on := 2, ground := .data }], guard := none },
 { dst := some 30, op := .load tS (.tmp 29), type := tS, pos := ps, after := #[{ on := 3, ground := .data }], guard := none },
 { dst := some 31, op := .call { callee := .value (.func K), args := #[.tmp 30], argTypes := #[tS] }, type := tS, pos := ps, after := #[{ on := 4, ground := .data }], guard := none },
 { dst := none, op := .store T (.tmp 4) (.tmp 26), type := 0, pos := ps, after := #[{ on := 0, ground := .data }, { on := 5, ground := .chain }, { on := 0, ground := .phase }, { on := 1, ground := .textOnly .lateStoresUnsure }, { on := 2, ground := .textOnly .lateStoresUnsure }, { on := 3, ground := .textOnly .lateStoresUnsure }, { on := 4, ground := .textOnly .lateStoresUnsure }, { on := 5, ground := .textOnly .lateStoresUnsure }], guard := none },
 { dst := none, op := .store tS (.tmp 5) (.tmp 31), type := 0, pos := ps, after := #[{ on := 5, ground := .data }, { on := 6, ground := .chain }, { on := 0, ground := .phase }, { on := 1, ground := .phase }, { on := 2, ground := .phase }, { on := 3, ground := .phase }, { on := 4, ground := .phase }, { on := 5, ground := .phase }, { on := 6, ground := .phase }], guard := none },
 { dst := none, op := .store tE (.tmp 6) (.const (.int .i64 0)), type := 0, pos := ps, after := #[{ on := 7, ground := .chain }, { on := 0, ground := .phase }, { on := 1, ground := .phase }, { on := 2, ground := .phase }, { on := 3, ground := .phase }, { on := 4, ground := .phase }, { on := 5, ground := .phase }, { on := 6, ground := .phase }, { on := 7, ground := .phase }], guard := none }]
theorem ops7_reg (ps : String) (T tS tR tE tP K : Nat) : regB (ops7 ps T tS tR tE tP K).toArray 32 = true := by kernel_rfl
def L7 (v1 v3 : Value) (l : List Nat) (l0 : List Value) (R : Nat) (wz : World) (t : Nat) (w : World) (v : Value) : Prop := match t with
 | 26 => v = v1
 | 27 => v = ptr R
 | 28 => v = ptr R
 | 29 => v = ptr R
 | 30 => v = v3
 | 31 => Sl w 1 v l.length (bv l) ∧ (∀ k, v.ownBlock = some k → wz.heap.size ≤ k) ∧ (∃ ao n c, v = .slice ao n c)
 | t => t < 9 → v = l0.getD t undef
def J7 (c1 : Array Value) (T tS tE B : Nat) (wz w : World) : Prop := Res3 wz w B ∧ w.heap[B]? = some (.cells c1 T (0, 0)) ∧ (∃ y, w.heap[B + 1]? = some (.cells #[y] tS (0, 0))) ∧ (∃ y, w.heap[B + 1 + 1]? = some (.cells #[y] tE (0, 0)))
def D7 (tS tE B : Nat) (l : List Nat) (wz : World) (i : Nat) (w : World) : Prop := match i with
 | 7 => ∃ v', w.heap[B + 1]? = some (.cells #[v'] tS (0, 0)) ∧ Sl w 1 v' l.length (bv l) ∧ ∀ k, v'.ownBlock = some k → wz.heap.size ≤ k
 | 8 => w.heap[B + 1 + 1]? = some (.cells #[.int .i64 0] tE (0, 0))
 | _ => True
theorem run_skip {P : Program} {w w' : World} {s : Sem Unit} (h : s.run P w = .ok () w') : (do s; pure Next.skip : Sem Next).run P w = .ok .skip w' := by
 simp only [Sem.run_bind, h, Sem.run_pure, Result.andThen_ok]
theorem read7 {ps : String} {P : Program} {Q : Exit → Act → World → Prop} (hm : P.follows .mixedOrders = true) (T tS tR tE tP K id B R : Nat) (v1 v3 : Value) (cs : List Value) (l : List Nat) (l0 : List Value) (ds : List Deferred) (wz : World)
   (hl0 : l0.length = 32) (h4 : l0.getD 4 undef = ptr B) (h5 : l0.getD 5 undef = ptr (B + 1)) (h6 : l0.getD 6 undef = ptr (B + 1 + 1)) (h7 : l0.getD 7 undef = ptr R)
   (hT : TY P T cs v1) (hS : ∀ ao n c, TY P tS [.slice ao n c] (.slice ao n c)) (hE : ∀ n, TY P tE [.int .i64 n] (.int .i64 n))
   (hB : wz.heap[B]? = some (.cells cs.toArray T (0, 0))) (hB1 : ∃ y, wz.heap[B + 1]? = some (.cells #[y] tS (0, 0))) (hB2 : ∃ y, wz.heap[B + 1 + 1]? = some (.cells #[y] tE (0, 0))) (hR : wz.cell? ⟨R, 0, none⟩ = some v3) (hRB : B + 1 + 1 < R)
   (hs0 : Sl wz 1 v3 l.length (bv l)) (hsb : ∀ k, v3.ownBlock = some k → k < B)
   (hfield : ∀ w, (Instr.fieldAt tR (ptr R) 0).run P w = .ok (ptr R) w)
   (hrun : ∀ (av : Array Value) w, ((Deferred.ofValue (.func (.func K) #[] #[]) av).run P w).andThen (fun a w' => (invoke a.target a.args).run P w') = .ok (.enter K av) w)
   (hclone : ∀ w v, Sl w 1 v l.length (bv l) → Calls P K #[v] w fun e w' => ∃ v', e = .returned v' ∧ Sl w' 1 v' l.length (bv l) ∧ Fresh w w' v')
   (hQ : ∀ a w, Res3 wz w B → a.defers = ds → a.tmps.size = 32 → (∀ t, t < 9 → a.tmps.getD t undef = l0.getD t undef) → w.heap[B]? = some (.cells cs.toArray T (0, 0)) →
     (∃ v', w.heap[B + 1]? = some (.cells #[v'] tS (0, 0)) ∧ Sl w 1 v' l.length (bv l) ∧ ∀ k, v'.ownBlock = some k → wz.heap.size ≤ k) → w.heap[B + 1 + 1]? = some (.cells #[.int .i64 0] tE (0, 0)) → Q .normal a w) :
   (Code.region id (ops7 ps T tS tR tE tP K).toArray true).wp P Q ⟨l0.toArray, ds⟩ wz := by
 have hlen : wz.heap.size > R := block_lt_of_cell hR
 refine region_gen hm 32
   (L7 v1 v3 l l0 R wz) (J7 cs.toArray T tS tE B wz) (D7 tS tE B l wz)
   ⟨⟨rfl, rfl, rfl, Nat.le_refl _, fun _ _ _ _ _ => rfl⟩, hB, hB1, hB2⟩ (by simpa using hl0) (ops7_reg ps T tS tR tE tP K) ?_ ?_ ?_
 · intro t ht hnd
   unfold L7
   split
   · exact absurd rfl (hnd 0 _ rfl)
   · exact absurd rfl (hnd 1 _ rfl)
   · exact absurd rfl (hnd 2 _ rfl)
   · exact absurd rfl (hnd 3 _ rfl)
   · exact absurd rfl (hnd 4 _ rfl)
   · exact absurd rfl (hnd 5 _ rfl)
   · intro _; simp [List.getD_eq_getElem?_getD]
 · have HO : OGAll P (ops7 ps T tS tR tE tP K).toArray (L7 v1 v3 l l0 R wz) (J7 cs.toArray T tS tE B wz) (D7 tS tE B l wz) 32 0 (ops7 ps T tS tR tE tP K) := by
     have keep : ∀ (w w' : World) (row : Option Nat), J7 cs.toArray T tS tE B wz w → w.grownBy w' row → (row = none ∨ row = some B ∨ row = some (B + 1) ∨ row = some (B + 1 + 1)) → ∀ t x, L7 v1 v3 l l0 R wz t w x → L7 v1 v3 l l0 R wz t w' x := by
       intro w w' row hJ hg hr t x hx
       unfold L7 at hx ⊢
       split at hx
       all_goals first | exact hx | skip
       obtain ⟨x1, x2, ao, n, c, rfl⟩ := hx
       refine ⟨x1.kept hg ?_, x2, ao, n, c, rfl⟩
       rcases hr with rfl | rfl | rfl | rfl
       · cases h : (Value.slice ao n c).ownBlock <;> simp
       all_goals
         right
         intro e
         have := x2 _ e
         omega
     have rd : ∀ (a : Act) (w : World) (t : Nat), L7 v1 v3 l l0 R wz t w (a.tmps.getD t undef) → L7 v1 v3 l l0 R wz t w (a.eval (.tmp t)) := fun _ _ _ h => h
     have dk : ∀ (w w' : World) (b : Nat), w.grownBy w' (some b) → b < R → ∀ j, (j = 7 → b ≠ B + 1) → (j = 8 → b ≠ B + 1 + 1) → D7 tS tE B l wz j w → D7 tS tE B l wz j w' := by
       intro w w' b hg hb j h7 h8 hD
       unfold D7 at hD ⊢
       split at hD
       · obtain ⟨v'', d1, d2, d3⟩ := hD
         have := h7 rfl
         exact ⟨v'', row_of hg d1 (by simp; omega), d2.kept hg (.inr fun e => by have := d3 _ e; omega), d3⟩
       · have := h8 rfl
         exact row_of hg hD (by simp; omega)
       · trivial
     refine ⟨?_, ?_, ?_, ?_, ?_, ?_, ?_, ?_, ?_, trivial⟩
     · refine og_run trivial (fun _ _ => trivial) fun a w hJ hl hs => ⟨v1, ?_, fun d hd => by cases hd; rfl⟩
       have e4 : a.eval (.tmp 4) = ptr B := (rd a w 4 (hl 4 (by simp [Oper.looksAt, Op.operands]) (by decide)) (by decide)).trans h4
       simp only [execOp, e4, Sem.run_bind, Sem.run_pure, hT.loads hJ.2.1, Result.andThen]
     · refine og_run trivial (fun _ _ => trivial) fun a w hJ hl hs => ⟨ptr R, ?_, fun d hd => by cases hd; rfl⟩
       have e7 : a.eval (.tmp 7) = ptr R := (rd a w 7 (hl 7 (by simp [Oper.looksAt, Op.operands]) (by decide)) (by decide)).trans h7
       simp only [execOp, e7, Sem.run_pure]
     · refine og_run trivial (fun _ _ => trivial) fun a w hJ hl hs => ⟨ptr R, ?_, fun d hd => by cases hd; rfl⟩
       have e7 : a.eval (.tmp 27) = ptr R := rd a w 27 (hl 27 (by simp [Oper.looksAt, Op.operands]) (by decide))
       simp only [execOp, e7, ptr, Sem.run_pure]
     · refine og_run trivial (fun _ _ => trivial) fun a w hJ hl hs => ⟨ptr R, ?_, fun d hd => by cases hd; rfl⟩
       have e7 : a.eval (.tmp 28) = ptr R := rd a w 28 (hl 28 (by simp [Oper.looksAt, Op.operands]) (by decide))
       simp only [execOp, e7, Sem.run_bind, Sem.run_pure, hfield w, Result.andThen]
     · refine og_run trivial (fun _ _ => trivial) fun a w hJ hl hs => ⟨v3, ?_, fun d hd => by cases hd; rfl⟩
       have e7 : a.eval (.tmp 29) = ptr R := rd a w 29 (hl 29 (by simp [Oper.looksAt, Op.operands]) (by decide))
       have hc : w.cell? ⟨R, 0, none⟩ = some v3 := (World.cell?_of_block (w := wz) (a := ⟨R, 0, none⟩) (hJ.1.block R hlen (by omega) (by omega) (by omega))).trans hR
       obtain ⟨ao, cap, rfl, _, _⟩ := hs0.shape
       have := (hS ao l.length cap).load w R 0 (fun j v hj => by
         cases j with
         | zero => simp at hj; subst hj; exact hc
         | succ j => simp at hj)
       simp only [execOp, e7, Instr.loadAt, ptr, Instr.sureAddr, Sem.run_bind, Sem.run_pure, Result.andThen_ok, this]
     · refine og_call K _ _ rfl trivial hrun fun a w hJ hl hs => ?_
       have e7 : a.eval (.tmp 30) = v3 := rd a w 30 (hl 30 (by simp [Oper.looksAt, Op.operands, Call.operands]) (by decide))
       have hsw : Sl w 1 v3 l.length (bv l) := by
         obtain ⟨q1, ao, cap, q2, q3, q4, q5, q6⟩ := hs0
         refine ⟨q1, ao, cap, q2, q3, q4, q5, fun ad had => ?_⟩
         obtain ⟨g1, g2⟩ := q6 ad had
         refine ⟨g1, fun j u hu => ?_⟩
         have hc := g2 j u hu
         have hb := hsb ad.block (by rw [q2, had]; rfl)
         exact (World.cell?_of_block (w := wz) (a := ⟨ad.block, ad.off + j, none⟩) (hJ.1.block _ (block_lt_of_cell hc) (by simp; omega) (by simp; omega) (by simp; omega))).trans hc
       have ea : Array.map a.eval #[Operand.tmp 30] = #[v3] := by simp only [List.map_toArray, List.map_cons, List.map_nil, e7]
       rw [ea]
       refine (hclone w v3 hsw).mono ?_
       rintro e w' ⟨v', rfl, hs', hf⟩
       refine ⟨v', rfl, ⟨hJ.1.step hf.1 (.inl rfl), row_of hf.1 hJ.2.1 (by simp [Value.ownBlock]), ?_, ?_⟩, keep w w' none hJ hf.1 (.inl rfl), ?_, trivial, fun d hd => ?_⟩
       · obtain ⟨y, hy⟩ := hJ.2.2.1; exact ⟨y, row_of hf.1 hy (by simp [Value.ownBlock])⟩
       · obtain ⟨y, hy⟩ := hJ.2.2.2; exact ⟨y, row_of hf.1 hy (by simp [Value.ownBlock])⟩
       · intro j hj hD
         unfold D7 at hD ⊢
         split at hD
         · obtain ⟨v'', d1, d2, d3⟩ := hD
           exact ⟨v'', row_of hf.1 d1 (by simp [Value.ownBlock]), d2.kept hf.1 (by cases h : v''.ownBlock <;> simp [Value.ownBlock]), d3⟩
         · exact row_of hf.1 hD (by simp [Value.ownBlock])
         · trivial
       · cases hd
         obtain ⟨ao, cap, rfl, _, _⟩ := hs'.shape
         refine ⟨hs', fun k hk => ?_, ao, _, cap, rfl⟩
         rcases hf.2 k hk with h | h
         · simp [Value.ownBlock] at h
         · exact Nat.le_trans hJ.1.size h
     · refine og_skip trivial rfl fun a w hJ hl hs => ?_
       have e4 : a.eval (.tmp 4) = ptr B := (rd a w 4 (hl 4 (by simp [Oper.looksAt, Op.operands]) (by decide)) (by decide)).trans h4
       have e26 : a.eval (.tmp 26) = v1 := rd a w 26 (hl 26 (by simp [Oper.looksAt, Op.operands]) (by decide))
       obtain ⟨s1, s2, s3⟩ := hT.stores hJ.2.1 (by simp)
       refine ⟨_, by simp only [execOp, e4, e26]; exact run_skip s1, ⟨hJ.1.step s2 (.inr (.inl rfl)), s3, ?_, ?_⟩, keep w _ _ hJ s2 (.inr (.inl rfl)), fun j hj => dk w _ B s2 (by omega) j (fun _ => by omega) (fun _ => by omega), trivial⟩
       · obtain ⟨y, hy⟩ := hJ.2.2.1; exact ⟨y, row_of s2 hy (by simp)⟩
       · obtain ⟨y, hy⟩ := hJ.2.2.2; exact ⟨y, row_of s2 hy (by simp; omega)⟩
     · refine og_skip trivial rfl fun a w hJ hl hs => ?_
       have e5 : a.eval (.tmp 5) = ptr (B + 1) := (rd a w 5 (hl 5 (by simp [Oper.looksAt, Op.operands]) (by decide)) (by decide)).trans h5
       obtain ⟨x1, x2, ao, n, c, hx⟩ := rd a w 31 (hl 31 (by simp [Oper.looksAt, Op.operands]) (by decide))
       rw [hx] at x1 x2
       obtain ⟨y, hy⟩ := hJ.2.2.1
       obtain ⟨s1, s2, s3⟩ := (hS ao n c).stores hy rfl
       refine ⟨_, by simp only [execOp, e5, hx]; exact run_skip s1, ⟨hJ.1.step s2 (.inr (.inr (.inl rfl))), row_of s2 hJ.2.1 (by simp), ⟨_, s3⟩, ?_⟩, keep w _ _ hJ s2 (.inr (.inr (.inl rfl))), fun j hj => dk w _ (B + 1) s2 (by omega) j (fun h => absurd h hj) (fun _ => by omega), ?_⟩
       · obtain ⟨y, hy⟩ := hJ.2.2.2; exact ⟨y, row_of s2 hy (by simp)⟩
       · exact ⟨_, s3, x1.kept s2 (.inr fun e => by have := x2 _ e; omega), x2⟩
     · refine og_skip trivial rfl fun a w hJ hl hs => ?_
       have e6 : a.eval (.tmp 6) = ptr (B + 1 + 1) := (rd a w 6 (hl 6 (by simp [Oper.looksAt, Op.operands]) (by decide)) (by decide)).trans h6
       obtain ⟨y, hy⟩ := hJ.2.2.2
       obtain ⟨s1, s2, s3⟩ := (hE 0).stores hy rfl
       refine ⟨_, by simp only [execOp, e6]; exact run_skip s1, ⟨hJ.1.step s2 (.inr (.inr (.inr rfl))), row_of s2 hJ.2.1 (by simp; omega), ?_, ⟨_, s3⟩⟩, keep w _ _ hJ s2 (.inr (.inr (.inr rfl))), fun j hj => dk w _ (B + 1 + 1) s2 (by omega) j (fun _ => by omega) (fun h => absurd h hj), s3⟩
       obtain ⟨y, hy⟩ := hJ.2.2.1; exact ⟨y, row_of s2 hy (by simp)⟩
   intro i o hi
   have := HO.at i o (by simpa using hi)
   rw [Nat.zero_add] at this
   exact this
 · intro a w hJ hd has hk hDD
   refine hQ a w hJ.1 hd has (fun t ht => ?_) hJ.2.1 (hDD 7 (by simp [ops7])) (hDD 8 (by simp [ops7]))
   have := hk t (by omega)
   unfold L7 at this
   split at this
   all_goals first | omega | exact this ht
end
/-! ## Read6 -/
section
open Go.RowKit
def ops6 (ps : String) (st : Bool) (T tS tR tE tP : Nat) : List Oper := [
 { dst := some 21, op := if st then .load T (.tmp 8) else .move (.tmp 8), type := T, pos := ps, after := #[], guard := none },
 { dst := some 22, op := .move (.tmp 7), type := tP, pos := ps, after := #[], guard := none },
 { dst := some 23, op := .nilCheck (.tmp 22), type := 0, pos := ps, after := #[{ on := 1, ground := .data }], guard := none },
 { dst := some 24, op := .fieldAddr tR (.tmp 23) 1, type := 0, pos := ps, after := #[{ on := 2, ground := .data }], guard := none },
 { dst := some 25, op := .load tE (.tmp 24), type := tE, pos := ps, after := #[{ on := 3, ground := .data }], guard := none },
 { dst := none, op := .store T (.tmp 4) (.tmp 21), type := 0, pos := ps, after := #[{ on := 0, ground := .data }, { on := 0, ground := .phase }, { on := 1, ground := .textOnly .lateStoresUnsure }, { on := 2, ground := .textOnly .lateStoresUnsure }, { on := 3, ground := .textOnly .lateStoresUnsure }, { on := 4, ground := .textOnly .lateStoresUnsure }], guard := none },
 { dst := none, op := .store tS (.tmp 5) (.const (.slice none 0 0)), type := 0, pos := ps, after := #[{ on := 5, ground := .chain }, { on := 0, ground := .phase }, { on := 1, ground := .textOnly .lateStoresUnsure }, { on := 2, ground := .textOnly .lateStoresUnsure }, { on := 3, ground := .textOnly .lateStoresUnsure }, { on := 4, ground := .textOnly .lateStoresUnsure }, { on := 5, ground := .phase }], guard := none },
 { dst := none, op := .store tE (.tmp 6) (.tmp 25), type := 0, pos := ps, after := #[{ on := 4, ground := .data }, { on := 6, ground := .chain }, { on := 0, ground := .phase }, { on := 1, ground := .phase }, { on := 2, ground := .phase }, { on := 3, ground := .phase }, { on := 4, ground := .phase }, { on := 5, ground := .phase }, { on := 6, ground := .phase }], guard := none }]
theorem ops6_reg (ps : String) (st : Bool) (T tS tR tE tP : Nat) : regB (ops6 ps st T tS tR tE tP).toArray 32 = true := by cases st <;> kernel_rfl
def L6 (v0 : Value) (er : Int) (l0 : List Value) (R : Nat) (t : Nat) (_ : World) (v : Value) : Prop := match t with
 | 21 => v = v0
 | 22 => v = ptr R
 | 23 => v = ptr R
 | 24 => v = .pointer (some ⟨R, 1, none⟩)
 | 25 => v = .int .i64 er
 | t => t < 9 → v = l0.getD t undef
def J6 (n T tS tE B : Nat) (wz w : World) : Prop := Res3 wz w B ∧ (∃ c : Array Value, c.size = n ∧ w.heap[B]? = some (.cells c T (0, 0))) ∧ (∃ y, w.heap[B + 1]? = some (.cells #[y] tS (0, 0))) ∧ (∃ y, w.heap[B + 1 + 1]? = some (.cells #[y] tE (0, 0)))
def D6 (cs : List Value) (T tS tE B : Nat) (er : Int) (i : Nat) (w : World) : Prop := match i with
 | 5 => w.heap[B]? = some (.cells cs.toArray T (0, 0))
 | 6 => w.heap[B + 1]? = some (.cells #[.slice none 0 0] tS (0, 0))
 | 7 => w.heap[B + 1 + 1]? = some (.cells #[.int .i64 er] tE (0, 0))
 | _ => True
theorem read6 {ps : String} {P : Program} {Q : Exit → Act → World → Prop} (hm : P.follows .mixedOrders = true) (st : Bool) (T tS tR tE tP id B R Z : Nat) (v0 : Value) (er : Int) (cs : List Value) (l0 : List Value) (ds : List Deferred) (wz : World)
   (hl0 : l0.length = 32) (h4 : l0.getD 4 undef = ptr B) (h5 : l0.getD 5 undef = ptr (B + 1)) (h6 : l0.getD 6 undef = ptr (B + 1 + 1)) (h7 : l0.getD 7 undef = ptr R)
   (h8 : l0.getD 8 undef = if st then ptr Z else v0) (hZ : st = true → B + 1 + 1 < Z ∧ wz.heap[Z]? = some (.cells cs.toArray T (0, 0)))
   (hT : TY P T cs v0) (hS : ∀ ao n c, TY P tS [.slice ao n c] (.slice ao n c)) (hE : ∀ n, TY P tE [.int .i64 n] (.int .i64 n))
   (hB : ∃ c : Array Value, c.size = cs.length ∧ wz.heap[B]? = some (.cells c T (0, 0))) (hB1 : ∃ y, wz.heap[B + 1]? = some (.cells #[y] tS (0, 0))) (hB2 : ∃ y, wz.heap[B + 1 + 1]? = some (.cells #[y] tE (0, 0))) (hR : wz.cell? ⟨R, 1, none⟩ = some (.int .i64 er)) (hRB : B + 1 + 1 < R)
   (hfield : ∀ w, (Instr.fieldAt tR (ptr R) 1).run P w = .ok (.pointer (some ⟨R, 1, none⟩)) w)
   (hQ : ∀ a w, Res3 wz w B → a.defers = ds → a.tmps.size = 32 → (∀ t, t < 9 → a.tmps.getD t undef = l0.getD t undef) → w.heap[B]? = some (.cells cs.toArray T (0, 0)) →
     w.heap[B + 1]? = some (.cells #[.slice none 0 0] tS (0, 0)) → w.heap[B + 1 + 1]? = some (.cells #[.int .i64 er] tE (0, 0)) → Q .normal a w) :
   (Code.region id (ops6 ps st T tS tR tE tP).toArray true).wp P Q ⟨l0.toArray, ds⟩ wz := by
 have hlen : wz.heap.size > R := block_lt_of_cell hR
 refine region_gen hm 32
   (L6 v0 er l0 R) (J6 cs.length T tS tE B wz) (D6 cs T tS tE B er)
   ⟨⟨rfl, rfl, rfl, Nat.le_refl _, fun _ _ _ _ _ => rfl⟩, hB, hB1, hB2⟩ (by simpa using hl0) (ops6_reg ps st T tS tR tE tP) ?_ ?_ ?_
 · intro t ht hnd
   unfold L6
   split
   · exact absurd rfl (hnd 0 _ rfl)
   · exact absurd rfl (hnd 1 _ rfl)
   · exact absurd rfl (hnd 2 _ rfl)
   · exact absurd rfl (hnd 3 _ rfl)
   · exact absurd rfl (hnd 4 _ rfl)
   · intro _; simp [List.getD_eq_getElem?_getD]
 · have HO : OGAll P (ops6 ps st T tS tR tE tP).toArray (L6 v0 er l0 R) (J6 cs.length T tS tE B wz) (D6 cs T tS tE B er) 32 0 (ops6 ps st T tS tR tE tP) := by
     have rd : ∀ (a : Act) (w : World) (t : Nat), L6 v0 er l0 R t w (a.tmps.getD t undef) → L6 v0 er l0 R t w (a.eval (.tmp t)) := fun _ _ _ h => h
     have dk : ∀ (w w' : World) (b : Nat), w.grownBy w' (some b) → ∀ j, (j = 5 → b ≠ B) → (j = 6 → b ≠ B + 1) → (j = 7 → b ≠ B + 1 + 1) → D6 cs T tS tE B er j w → D6 cs T tS tE B er j w' := by
       intro w w' b hg j h5 h6 h7 hD
       unfold D6 at hD ⊢
       split at hD
       · have := h5 rfl; exact row_of hg hD (by simp; omega)
       · have := h6 rfl; exact row_of hg hD (by simp; omega)
       · have := h7 rfl; exact row_of hg hD (by simp; omega)
       · trivial
     refine ⟨?_, ?_, ?_, ?_, ?_, ?_, ?_, ?_, trivial⟩
     · refine og_run trivial (fun _ _ => trivial) fun a w hJ hl hs => ⟨v0, ?_, fun d hd => by cases hd; rfl⟩
       have e8 : a.eval (.tmp 8) = l0.getD 8 undef := rd a w 8 (hl 8 (by cases st <;> simp [Oper.looksAt, Op.operands]) (by decide)) (by decide)
       rw [h8] at e8
       cases st with
       | false =>
         have e8 : a.eval (.tmp 8) = v0 := e8
         simp only [execOp, Bool.false_eq_true, if_false, e8, Sem.run_pure]
       | true =>
         have e8 : a.eval (.tmp 8) = ptr Z := e8
         obtain ⟨z1, z2⟩ := hZ rfl
         have z3 := (hJ.1.block Z (Array.getElem?_eq_some_iff.1 z2).1 (by omega) (by omega) (by omega)).trans z2
         simp only [execOp, if_true, e8, Sem.run_bind, Sem.run_pure, hT.loads z3, Result.andThen]
     · refine og_run trivial (fun _ _ => trivial) fun a w hJ hl hs => ⟨ptr R, ?_, fun d hd => by cases hd; rfl⟩
       have e7 : a.eval (.tmp 7) = ptr R := (rd a w 7 (hl 7 (by simp [Oper.looksAt, Op.operands]) (by decide)) (by decide)).trans h7
       simp only [execOp, e7, Sem.run_pure]
     · refine og_run trivial (fun _ _ => trivial) fun a w hJ hl hs => ⟨ptr R, ?_, fun d hd => by cases hd; rfl⟩
       have e7 : a.eval (.tmp 22) = ptr R := rd a w 22 (hl 22 (by simp [Oper.looksAt, Op.operands]) (by decide))
       simp only [execOp, e7, ptr, Sem.run_pure]
     · refine og_run trivial (fun _ _ => trivial) fun a w hJ hl hs => ⟨.pointer (some ⟨R, 1, none⟩), ?_, fun d hd => by cases hd; rfl⟩
       have e7 : a.eval (.tmp 23) = ptr R := rd a w 23 (hl 23 (by simp [Oper.looksAt, Op.operands]) (by decide))
       simp only [execOp, e7, Sem.run_bind, Sem.run_pure, hfield w, Result.andThen]
     · refine og_run trivial (fun _ _ => trivial) fun a w hJ hl hs => ⟨.int .i64 er, ?_, fun d hd => by cases hd; rfl⟩
       have e7 : a.eval (.tmp 24) = .pointer (some ⟨R, 1, none⟩) := rd a w 24 (hl 24 (by simp [Oper.looksAt, Op.operands]) (by decide))
       have hc : w.cell? ⟨R, 1, none⟩ = some (.int .i64 er) := (World.cell?_of_block (w := wz) (a := ⟨R, 1, none⟩) (hJ.1.block R hlen (by omega) (by omega) (by omega))).trans hR
       have := (hE er).load w R 1 (fun j v hj => by
         cases j with
         | zero => simp at hj; subst hj; exact hc
         | succ j => simp at hj)
       simp only [execOp, e7, Instr.loadAt, Instr.sureAddr, Sem.run_bind, Sem.run_pure, Result.andThen_ok, this]
     · refine og_skip trivial rfl fun a w hJ hl hs => ?_
       have e4 : a.eval (.tmp 4) = ptr B := (rd a w 4 (hl 4 (by simp [Oper.looksAt, Op.operands]) (by decide)) (by decide)).trans h4
       have e26 : a.eval (.tmp 21) = v0 := rd a w 21 (hl 21 (by simp [Oper.looksAt, Op.operands]) (by decide))
       obtain ⟨c, hc, hb⟩ := hJ.2.1
       obtain ⟨s1, s2, s3⟩ := hT.stores hb hc
       refine ⟨_, by simp only [execOp, e4, e26]; exact run_skip s1, ⟨hJ.1.step s2 (.inr (.inl rfl)), ⟨_, by simp, s3⟩, ?_, ?_⟩, fun _ _ h => h, fun j hj => dk w _ B s2 j (fun h => absurd h hj) (fun _ => by omega) (fun _ => by omega), s3⟩
       · obtain ⟨y, hy⟩ := hJ.2.2.1; exact ⟨y, row_of s2 hy (by simp)⟩
       · obtain ⟨y, hy⟩ := hJ.2.2.2; exact ⟨y, row_of s2 hy (by simp; omega)⟩
     · refine og_skip trivial rfl fun a w hJ hl hs => ?_
       have e5 : a.eval (.tmp 5) = ptr (B + 1) := (rd a w 5 (hl 5 (by simp [Oper.looksAt, Op.operands]) (by decide)) (by decide)).trans h5
       obtain ⟨y, hy⟩ := hJ.2.2.1
       obtain ⟨s1, s2, s3⟩ := (hS none 0 0).stores hy rfl
       obtain ⟨c, hc, hb⟩ := hJ.2.1
       refine ⟨_, by simp only [execOp, e5]; exact run_skip s1, ⟨hJ.1.step s2 (.inr (.inr (.inl rfl))), ⟨c, hc, row_of s2 hb (by simp)⟩, ⟨_, s3⟩, ?_⟩, fun _ _ h => h, fun j hj => dk w _ (B + 1) s2 j (fun _ => by omega) (fun h => absurd h hj) (fun _ => by omega), s3⟩
       obtain ⟨y, hy⟩ := hJ.2.2.2; exact ⟨y, row_of s2 hy (by simp)⟩
     · refine og_skip trivial rfl fun a w hJ hl hs => ?_
       have e6 : a.eval (.tmp 6) = ptr (B + 1 + 1) := (rd a w 6 (hl 6 (by simp [Oper.looksAt, Op.operands]) (by decide)) (by decide)).trans h6
       have e25 : a.eval (.tmp 25) = .int .i64 er := rd a w 25 (hl 25 (by simp [Oper.looksAt, Op.operands]) (by decide))
       obtain ⟨y, hy⟩ := hJ.2.2.2
       obtain ⟨s1, s2, s3⟩ := (hE er).stores hy rfl
       obtain ⟨c, hc, hb⟩ := hJ.2.1
       refine ⟨_, by simp only [execOp, e6, e25]; exact run_skip s1, ⟨hJ.1.step s2 (.inr (.inr (.inr rfl))), ⟨c, hc, row_of s2 hb (by simp; omega)⟩, ?_, ⟨_, s3⟩⟩, fun _ _ h => h, fun j hj => dk w _ (B + 1 + 1) s2 j (fun _ => by omega) (fun _ => by omega) (fun h => absurd h hj), s3⟩
       obtain ⟨y, hy⟩ := hJ.2.2.1; exact ⟨y, row_of s2 hy (by simp)⟩
   intro i o hi
   have := HO.at i o (by simpa using hi)
   rw [Nat.zero_add] at this
   exact this
 · intro a w hJ hd has hk hDD
   refine hQ a w hJ.1 hd has (fun t ht => ?_) (hDD 5 (by simp [ops6])) (hDD 6 (by simp [ops6])) (hDD 7 (by simp [ops6]))
   have := hk t (by omega)
   unfold L6 at this
   split at this
   all_goals first | omega | exact this ht
end
/-! ## Rd64 -/
section
open Go.RowKit
theorem heap_at {w : World} {o : Obj} {n : Nat} (h : n = w.heap.size) : (w.alloc o).heap[n]? = some o := by subst h; exact Go.heap_alloc_new w o
theorem heap_past {w : World} {o : Obj} {n : Nat} (h : n < w.heap.size) : (w.alloc o).heap[n]? = w.heap[n]? := Below.heap_alloc w o n h
theorem row1 {w : World} {R : Nat} {T : TypeId} {a : Value} (h : w.heap[R]? = some (.cells #[a] T (0, 0))) : w.cell? ⟨R, 0, none⟩ = some a ∧ w.frozen? ⟨R, 0, none⟩ = false :=
 ⟨by rw [cell_of_row w R 0 _ T _ h]; rfl, frozen_of_row w R 0 _ T h⟩
theorem mixed : Try.prog.follows .mixedOrders = true := by kernel_rfl
theorem tyS : ∀ ao n c, TY Try.prog 22 [.slice ao n c] (.slice ao n c) := fun _ _ _ => TY.one' Try.underlying22 rfl (by kernel_rfl) rfl
theorem tyE : ∀ n, TY Try.prog 25 [.int .i64 n] (.int .i64 n) := fun _ => TY.one' Try.underlying25 rfl (by kernel_rfl) rfl
theorem ty64 : ∀ n, TY Try.prog 2 [.int .i64 n] (.int .i64 n) := fun _ => TY.one' Try.underlying2 rfl (by kernel_rfl) rfl
theorem field0 : ∀ w R, (Instr.fieldAt 201 (ptr R) 0).run Try.prog w = .ok (ptr R) w := fun w R => by unfold ptr; go_simp
theorem field1 : ∀ w R, (Instr.fieldAt 201 (ptr R) 1).run Try.prog w = .ok (.pointer (some ⟨R, 1, none⟩)) w := fun w R => by unfold ptr; go_simp
theorem enter_of {P : Program} {f : Nat} {fn : Func} {c : Code} (hf : P.funcs[f]? = some fn) (hname : (fn.name == "runtime.NumGoroutine") = false) (hb : fn.body = some c) :
   ∀ (av : Array Value) (w : World), ((Deferred.ofValue (.func (.func f) #[] #[]) av).run P w).andThen (fun a w' => (invoke a.target a.args).run P w') = .ok (.enter f av) w := by
 intro av w
 have h1 : fn.name ≠ "runtime.NumGoroutine" := by simpa using hname
 simp [Deferred.ofValue, invoke, callFunc, hf, h1, hb]
theorem enterClone : ∀ (av : Array Value) (w : World), ((Deferred.ofValue (.func (.func 165) #[] #[]) av).run Try.prog w).andThen (fun a w' => (invoke a.target a.args).run Try.prog w') = .ok (.enter 165 av) w :=
 enter_of Try.func165 (by kernel_rfl) rfl
theorem results3 {P : Program} {fn : Func} {p q r : Tmp} {T S E : TypeId} (h : fn.results = #[.cell p T, .cell q S, .cell r E]) {tmps : Array Value} {w : World} {b0 b1 b2 : Nat} {c0 c1 c2 : List Value} {v0 v1 v2 : Value} {fr0 fr1 fr2 : Nat × Nat} {u0 u1 u2 : TypeId}
   (hp : tmps.getD p undef = ptr b0) (hq : tmps.getD q undef = ptr b1) (hr : tmps.getD r undef = ptr b2) (t0 : TY P T c0 v0) (t1 : TY P S c1 v1) (t2 : TY P E c2 v2)
   (h0 : w.heap[b0]? = some (.cells c0.toArray u0 fr0)) (h1 : w.heap[b1]? = some (.cells c1.toArray u1 fr1)) (h2 : w.heap[b2]? = some (.cells c2.toArray u2 fr2)) :
   (results fn tmps).run P w = .ok (.tuple #[v0, v1, v2]) w := by
 have e0 := t0.load w b0 0 (rangeAt_row h0)
 have e1 := t1.load w b1 0 (rangeAt_row h1)
 have e2 := t2.load w b2 0 (rangeAt_row h2)
 have hp' : tmps[p]?.getD undef = .pointer (some ⟨b0, 0, none⟩) := by simpa [ptr] using hp
 have hq' : tmps[q]?.getD undef = .pointer (some ⟨b1, 0, none⟩) := by simpa [ptr] using hq
 have hr' : tmps[r]?.getD undef = .pointer (some ⟨b2, 0, none⟩) := by simpa [ptr] using hr
 simp [results, h, hp', hq', hr', asAddr, e0, e1, e2]
theorem rec64_walk (a b c : Value) (w : World) : CallsD Try.prog 164 #[a, b, c] .returning w fun e u' w' => e = .returned (.tuple #[]) ∧ u' = .returning ∧ w' = w := by
 refine callsD_of_wpS Try.func164 rfl fun c₀ cs hu => ?_
 apply wpS_seq
 apply wpS_region
 simp [wpOpsS, go_sem, recoverD, hu, Try.ntmps164]
 refine wpS_cond (t := false) rfl ?_
 refine wpS_of_wp (wp_skip ?_)
 cases c₀
 simp_all [bodyPostS, results, Try.results164]
def ReadPost {α : Type} (p : Parser α) (xs : List Nat) (zero : Value) (rep : Nat → World → Value → α → Prop) (w : World) (en : Ending) (w' : World) : Prop :=
 w.grownBy w' none ∧ match p xs with
 | .ok (x, r) => ∃ v rv, en = .returned (.tuple #[v, rv, .int .i64 0]) ∧ rep w.heap.size w' v x ∧ Sl w' 1 rv r.length (bv r) ∧ ∀ k, rv.ownBlock = some k → w.heap.size ≤ k
 | .error n => en = .returned (.tuple #[zero, nilS, .int .i64 n]) ∧ n ≠ 0
theorem ReadPost.mkErr {α : Type} {p : Parser α} {xs : List Nat} {zero : Value} {rep : Nat → World → Value → α → Prop} {w w' : World} {en : Ending} {n : Nat} (hg : w.grownBy w' none) (hp : p xs = .error n) (he : en = .returned (.tuple #[zero, nilS, .int .i64 n])) (hn : n ≠ 0) : ReadPost p xs zero rep w en w' := by
 unfold ReadPost
 rw [hp]
 exact ⟨hg, he, hn⟩
theorem ReadPost.mkOk {α : Type} {p : Parser α} {xs r : List Nat} {zero : Value} {rep : Nat → World → Value → α → Prop} {w w' : World} {en : Ending} {x : α} {v rv : Value} (hg : w.grownBy w' none) (hp : p xs = .ok (x, r)) (he : en = .returned (.tuple #[v, rv, .int .i64 0]))
   (hr : rep w.heap.size w' v x) (hs : Sl w' 1 rv r.length (bv r)) (hk : ∀ k, rv.ownBlock = some k → w.heap.size ≤ k) : ReadPost p xs zero rep w en w' := by
 unfold ReadPost
 rw [hp]
 exact ⟨hg, v, rv, he, hr, hs, hk⟩
theorem Res3.grown {w W w1 wz w2 : World} {R B B' : Nat} (h1 : w.grownBy W none) (h2 : W.grownBy w1 (some R)) (h3 : w1.grownBy wz (some B')) (h4 : Res3 wz w2 B) (hR : w.heap.size ≤ R) (hB : B = w.heap.size) (hB' : B' = w.heap.size) : w.grownBy w2 none := by
 subst hB hB'
 refine ⟨h4.os.trans (h3.os.trans (h2.os.trans h1.os)), h4.tape.trans (h3.tape.trans (h2.tape.trans h1.tape)), h4.output.trans (h3.output.trans (h2.output.trans h1.output)), Nat.le_trans h1.size (Nat.le_trans h2.size (Nat.le_trans h3.size h4.size)), fun i hi _ => ?_⟩
 have s1 := h1.size
 have s2 := h2.size
 have s3 := h3.size
 exact (h4.block i (by omega) (by omega) (by omega) (by omega)).trans ((h3.block i (by omega) (by simp; omega)).trans ((h2.block i (by omega) (by simp; omega)).trans (h1.block i hi (by simp))))
theorem read64_walk (v : Value) (xs : List Nat) (w : World) (hv : Sl w 1 v xs.length (bv xs)) (hl : xs.length ≤ 1099511627776) (hb : ∀ b ∈ xs, b < 256) (hvb : Lo v w.heap.size) :
   Calls Try.prog 90 #[v, .func (.func 91) #[] #[]] w (ReadPost pInt xs (.int .i64 0) (fun _ => repInt) w) := by
 obtain ⟨ao, cap, rfl, hnc, hcm⟩ := hv.shape
 have hmf : ∀ (fn : Fn) (first cap : Array Value) (w : World), (Instr.makeFunc fn first cap).run Try.prog w = .ok (.func fn first cap) w := fun _ _ _ _ => rfl
 go_enter_defers Try.func90, Try.ntmps90
 go_wp2_with fail
 generalize hW : (((w.alloc (Obj.cells #[Value.int IntKind.i64 0] 2)).alloc (Obj.cells #[Value.slice none 0 0] 22)).alloc (Obj.cells #[Value.int IntKind.i64 0] 25)).alloc (Obj.cells #[Value.slice ao xs.length cap, Value.int IntKind.i64 0] 201) = W
 have hWg : w.grownBy W none := by rw [← hW]; exact grown_trans (grown_trans (grown_trans (World.grownBy_alloc _ _ _) (World.grownBy_alloc _ _ _)) (World.grownBy_alloc _ _ _)) (World.grownBy_alloc _ _ _)
 have h0 : W.heap[w.heap.size]? = some (.cells #[.int .i64 0] 2 (0, 0)) := by rw [← hW, heap_past (by simp <;> omega), heap_past (by simp <;> omega), heap_past (by simp <;> omega), heap_at rfl]
 have h1 : W.heap[w.heap.size + 1]? = some (.cells #[.slice none 0 0] 22 (0, 0)) := by rw [← hW, heap_past (by simp <;> omega), heap_past (by simp <;> omega), heap_at (by simp <;> omega)]
 have h2 : W.heap[w.heap.size + 1 + 1]? = some (.cells #[.int .i64 0] 25 (0, 0)) := by rw [← hW, heap_past (by simp <;> omega), heap_at (by simp <;> omega)]
 have h3 : W.heap[w.heap.size + 1 + 1 + 1]? = some (.cells #[.slice ao xs.length cap, .int .i64 0] 201 (0, 0)) := by rw [← hW, heap_at (by simp <;> omega)]
 have hsz : W.heap.size = w.heap.size + 4 := by rw [← hW]; simp
 clear hW
 have hst : RSt 201 w.heap.size W (w.heap.size + 1 + 1 + 1) (.ok xs) := ⟨_, xs, ⟨rfl, h3⟩, hv.kept hWg (by cases h : (Value.slice ao xs.length cap).ownBlock <;> simp), ⟨hvb, by omega⟩, hb, hl⟩
 refine (int_walk _ _ _ hst).mono ?_
 rintro e w1 ⟨v1, x, s', rfl, ⟨rfl, hx1, hx2⟩, hg1, hst1, hrel⟩
 have k0 := row_of hg1 h0 (by simp <;> omega)
 have k1 := row_of hg1 h1 (by simp <;> omega)
 have k2 := row_of hg1 h2 (by simp <;> omega)
 obtain ⟨c0, f0⟩ := row1 k0
 have hsz1 := hg1.size
 clear h0 h1 h2 h3 hst
 have K0 := hid k0
 have K1 := hid k1
 have K2 := hid k2
 have HS := hid hst1
 cases s' with
 | error er =>
   obtain ⟨v3, l3, ⟨he, he2, hrow⟩, _⟩ := hst1
   obtain ⟨r0, r1, _, _⟩ := row2 hrow
   have hne : ((er : Int) != 0) = true := by simp; omega
   have HRow := hid hrow
   clear hrow k0 k1 k2
   go_wp2
   generalize hwz : w1.setCell ⟨w.heap.size, 0, none⟩ (.int .i64 x) = wz
   have hgz : w1.grownBy wz (some w.heap.size) := by rw [← hwz]; exact grown_setCell w1 ⟨w.heap.size, 0, none⟩ _
   have z0 : wz.heap[w.heap.size]? = some (.cells #[.int .i64 x] 2 (0, 0)) := by rw [← hwz]; exact heap_setCell_same w1 _ 0 _ _ _ K0.out
   have z1 := row_of hgz K1.out (by simp)
   have z2 := row_of hgz K2.out (by simp <;> omega)
   have z3 := row_of hgz HRow.out (by simp <;> omega)
   clear hwz
   refine read6 mixed false 2 _ _ _ _ 6 w.heap.size (w.heap.size + 1 + 1 + 1) 0 (.int .i64 0) er [.int .i64 0] _ _ _ rfl rfl rfl rfl rfl rfl (fun h => (by cases h)) (ty64 0) tyS tyE ⟨_, by simp, z0⟩ ⟨_, z1⟩ ⟨_, z2⟩ (row2 z3).2.1 (by omega) (fun w => field1 w _) ?_
   intro a w2 hres hd hs hl q0 q1 q2
   go_wp2
   obtain ⟨tmps, ds⟩ := a
   simp only at hd hs hl
   subst hd
   refine leaves_cons (f := 164) (args := #[.pointer (some ⟨w.heap.size, 0, none⟩), .pointer (some ⟨w.heap.size + 1, 0, none⟩), .pointer (some ⟨w.heap.size + 1 + 1, 0, none⟩)]) (by simp) (by simp [go_sem]) ?_
   refine (rec64_walk _ _ _ _).mono ?_
   rintro e u' w'' ⟨rfl, rfl, rfl⟩
   have hrs := Res3.grown hWg hg1 hgz hres (by omega) rfl rfl
   exact ⟨_, results3 rfl (hl 4 (by decide)) (hl 5 (by decide)) (hl 6 (by decide)) (ty64 0) (tyS none 0 0) (tyE er) q0 q1 q2, ReadPost.mkErr hrs hrel.err rfl he⟩
 | ok l' =>
   obtain ⟨v3, l3, ⟨rfl, hrow⟩, hsl, hvl, hlb, hll⟩ := hst1
   obtain ⟨r0, r1, _, _⟩ := row2 hrow
   have HRow := hid hrow
   clear hrow k0 k1 k2
   go_wp2
   generalize hwz : w1.setCell ⟨w.heap.size, 0, none⟩ (.int .i64 x) = wz
   have hgz : w1.grownBy wz (some w.heap.size) := by rw [← hwz]; exact grown_setCell w1 ⟨w.heap.size, 0, none⟩ _
   have z0 : wz.heap[w.heap.size]? = some (.cells #[.int .i64 x] 2 (0, 0)) := by rw [← hwz]; exact heap_setCell_same w1 _ 0 _ _ _ K0.out
   have z1 := row_of hgz K1.out (by simp)
   have z2 := row_of hgz K2.out (by simp <;> omega)
   have z3 := row_of hgz HRow.out (by simp <;> omega)
   clear hwz
   have hlo := hvl.1
   refine read7 mixed 2 _ _ _ _ 165 7 w.heap.size (w.heap.size + 1 + 1 + 1) (.int .i64 x) v3 [.int .i64 x] l' _ _ _ rfl rfl rfl rfl rfl (ty64 x) tyS tyE z0 ⟨_, z1⟩ ⟨_, z2⟩ (row2 z3).1 (by omega) (hsl.kept hgz (.inr (hlo.ne (Nat.le_refl _)))) hlo (fun w => field0 w _) enterClone (fun w v hv => clone_walk v l' w hv hll) ?_
   intro a w2 hres hd hs hl q0 q1 q2
   go_wp2
   obtain ⟨tmps, ds⟩ := a
   simp only at hd hs hl
   subst hd
   refine leaves_cons (f := 164) (args := #[.pointer (some ⟨w.heap.size, 0, none⟩), .pointer (some ⟨w.heap.size + 1, 0, none⟩), .pointer (some ⟨w.heap.size + 1 + 1, 0, none⟩)]) (by simp) (by simp [go_sem]) ?_
   refine (rec64_walk _ _ _ _).mono ?_
   rintro e u' w'' ⟨rfl, rfl, rfl⟩
   have hrs := Res3.grown hWg hg1 hgz hres (by omega) rfl rfl
   obtain ⟨v', q1, qs, qk⟩ := q1
   obtain ⟨ao', cap', rfl, _, _⟩ := qs.shape
   exact ⟨_, results3 rfl (hl 4 (by decide)) (hl 5 (by decide)) (hl 6 (by decide)) (ty64 x) (tyS _ _ _) (tyE 0) q0 q1 q2, ReadPost.mkOk hrs hrel.ok rfl ⟨rfl, hx1, hx2⟩ qs fun k hk => by have := qk k hk; have := hgz.size; omega⟩
theorem readInt_walk (v : Value) (xs : List Nat) (w : World) (hv : Sl w 1 v xs.length (bv xs)) (hl : xs.length ≤ 1099511627776) (hb : ∀ b ∈ xs, b < 256) (hvb : Lo v w.heap.size) :
   Calls Try.prog 20 #[v] w (ReadPost pInt xs (.int .i64 0) (fun _ => repInt) w) := by
 obtain ⟨ao, cap, rfl, hnc, hcm⟩ := hv.shape
 have HV := hid hv
 have HB := hid hb
 have HVB := hid hvb
 clear hv hb hvb
 go_enter Try.func20, Try.ntmps20
 go_wp2_with fail
 refine (read64_walk _ xs _ HV.out hl HB.out HVB.out).mono ?_
 intro e w' h
 have H := hid h
 unfold ReadPost at h
 obtain ⟨hg, h⟩ := h
 cases hp : pInt xs with
 | error n =>
   rw [hp] at h
   obtain ⟨rfl, hn⟩ := h
   clear hp hg hn
   go_wp2
   go_ret3
   exact H.out
 | ok y =>
   obtain ⟨x, r⟩ := y
   rw [hp] at h
   obtain ⟨v, rv, rfl, h⟩ := h
   clear hp hg h
   go_wp2
   go_ret3
   exact H.out
end
end Go.Proofs.Ytkeiffccllfkpaa
