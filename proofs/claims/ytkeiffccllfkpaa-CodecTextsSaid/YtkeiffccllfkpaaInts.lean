/- Int of the reference and ints of the program append the encoding of integers. -/
import Derived.Test.YtkeiffccllfkpaaBase
namespace Go.Proofs.Ytkeiffccllfkpaa
open Go.RowKit
theorem bytesT : ET Try.prog 22 5 (.int .u8 0) 1 1 := ⟨Try.underlying22, info_parts (by kernel_rfl), rfl, by decide, by decide⟩

set_option maxRecDepth 100000 in
set_option maxHeartbeats 400000 in
theorem refInt_walk (n : Int) (w : World) (h0 : -9223372036854775808 ≤ n) (h1 : n ≤ 9223372036854775807) :
    Calls Try.prog 22 #[.int .i64 n] w fun e w' => ∃ v, e = .returned v ∧ Own w' 5 1 v (enc n).length (bv (enc n)) ∧ Fresh w w' v := by
  obtain ⟨m, m2, hm, hm2, hp, hq⟩ := u64_of n h0 h1
  have hz := zig_lt h0 h1
  have hl := enc_len h0 h1
  unfold enc at *
  generalize zig n = z at *
  by_cases hn : n < 0
  all_goals
    go_enter Try.func22, Try.ntmps22
    go_wp2
    go_loopw [3, 4] (fun u v wr => ∃ (k : Nat) (l : List Nat), k < 18446744073709551616 ∧ l ++ leb k = leb z ∧ u = .int .u64 k ∧ Own wr 5 1 v l.length (bv l) ∧ Fresh w wr v) (fun u _ _ => (intOf u).toNat)
    case atStart => exact ⟨z, [], hz, rfl, rfl, by simpa using World.ownsRow_lit w #[] 0 (Nat.zero_le _) (Nat.zero_le _) rfl, Step.fresh (World.grownBy_alloc _ _ _) (by simp [Value.ownBlock])⟩
    case round =>
      obtain ⟨k, l, hk, hl1, rfl, hown, hg⟩ := hrel
      have hll : l.length + (leb k).length ≤ 10 := by rw [← List.length_append, hl1]; exact hl
      by_cases hk2 : k < 128
      · rw [leb_small hk2] at hl1 hll
        go_wp2_with (at_builtin; go_must (refine wpList_push bytesT rfl _ _ rfl _ _ _ rfl hown [_] 1 rfl rfl rfl (by simp at hll; omega) ?_; intro v' w' hown' hg'))
        go_ret
        exact ⟨_, rfl, by rw [← hl1]; simpa [bv] using hown', hg.trans hg'⟩
      · rw [leb_big hk2] at hl1 hll
        have hkd : k / 128 < 18446744073709551616 := by omega
        go_wp2_with (at_builtin; go_must (refine wpList_push bytesT rfl _ _ rfl _ _ _ rfl hown [_] 1 rfl rfl rfl (by simp at hll; omega) ?_; intro v' w' hown' hg'))
        go_roundw
        case rel => exact ⟨k / 128, l ++ [k % 128 + 128], hkd, by simpa using hl1, by go_num, by simpa [bv] using hown', hg.trans hg'⟩
        case measure => simp [intOf]; omega

theorem take_flat {α β : Type} (f : α → List β) (l : List α) (k : Nat) (h : k < l.length) : (l.take (k + 1)).flatMap f = (l.take k).flatMap f ++ f l[k] := by
  rw [List.take_succ_eq_append_getElem h]; simp only [List.flatMap_append, List.flatMap_cons, List.flatMap_nil, List.append_nil]
theorem flat_enc_len (ns : List Int) (hr : ∀ n ∈ ns, -9223372036854775808 ≤ n ∧ n ≤ 9223372036854775807) : (ns.flatMap enc).length ≤ 10 * ns.length := by
  induction ns with
  | nil => simp
  | cons a l ih =>
    have h1 := ih fun n hn => hr n (List.mem_cons_of_mem _ hn)
    have h2 := hr a List.mem_cons_self
    have h3 := enc_len h2.1 h2.2
    simp only [List.flatMap_cons, List.length_append, List.length_cons]; omega

theorem or128 (q : Nat) : q % 256 ||| 128 = q % 128 + 128 := by
  have h1 : q % 256 < 256 := Nat.mod_lt _ (by decide)
  have h2 : q % 128 = q % 256 % 128 := by omega
  rw [h2]
  generalize q % 256 = r at *
  have : ∀ r : Fin 256, r.val ||| 128 = r.val % 128 + 128 := by decide +kernel
  exact this ⟨r, h1⟩

set_option maxRecDepth 100000 in
set_option maxHeartbeats 1000000 in
theorem ints_walk (v s : Value) (xs : List Nat) (ns : List Int) (w : World) (hown : Own w 5 1 v xs.length (bv xs)) (hs : Sl w 1 s ns.length (ns.map (.int .i64))) (hne : s.ownBlock = none ∨ s.ownBlock ≠ v.ownBlock)
    (hr : ∀ n ∈ ns, -9223372036854775808 ≤ n ∧ n ≤ 9223372036854775807) (hlen : xs.length + 10 * ns.length ≤ 1099511627776) :
    Calls Try.prog 89 #[v, s] w fun e w' => ∃ v', e = .returned v' ∧ Own w' 5 1 v' (xs ++ ns.flatMap enc).length (bv (xs ++ ns.flatMap enc)) ∧ Step w v w' v' := by
  obtain ⟨ao, cap, rfl, hnc, hcm⟩ := hs.shape
  go_enter Try.func89, Try.ntmps89
  go_wp2
  go_loopw [0, 10] (fun b i wr => ∃ k : Nat, k ≤ ns.length ∧ i = .int .i64 k ∧ Own wr 5 1 b (xs ++ (ns.take k).flatMap enc).length (bv (xs ++ (ns.take k).flatMap enc)) ∧ Step w v wr b) (fun _ i _ => ns.length - (intOf i).toNat)
  case atStart => exact ⟨0, Nat.zero_le _, rfl, by simpa using hown, Step.refl _ _⟩
  case round =>
    obtain ⟨k, hk, rfl, hownk, hst⟩ := hrel
    by_cases hlt : k < ns.length
    · have hsk := hs.kept hst.1 hne
      obtain ⟨blk, off, rfl, hc⟩ := hsk.at k (by simpa using hlt)
      have hcell : wr.cell? ⟨blk, off + k, none⟩ = some (.int .i64 ns[k]) := (hc k (by simpa using hlt)).trans (by rw [List.getElem_map])
      have HT := hid (take_flat enc ns k hlt)
      have hrk := hr ns[k] (List.getElem_mem hlt)
      generalize ns[k] = x at *
      obtain ⟨m, m2, hm, hm2, hp, hq⟩ := u64_of x hrk.1 hrk.2
      have hz := zig_lt hrk.1 hrk.2
      have hfl := flat_enc_len (ns.take k) fun n hn => hr n (List.mem_of_mem_take hn)
      rw [List.length_take, Nat.min_eq_left (by omega)] at hfl
      have hxl : xs.length + ((ns.take k).flatMap enc).length + 10 ≤ 1099511627776 := by omega
      have hex := enc_len hrk.1 hrk.2
      have HE : Hid (enc x = leb (zig x)) := rfl
      rw [HE.out] at hex
      generalize zig x = z at *
      generalize hpre : xs ++ (ns.take k).flatMap enc = pre at *
      have hxl2 : pre.length + 10 ≤ 1099511627776 := by rw [← hpre, List.length_append]; exact hxl
      clear hc hsk hs hr hfl hxl
      have HP := hid hpre; clear hpre
      by_cases hn : x < 0
      all_goals
        go_wp2
        go_loopw [0, 7] (fun b u wr => ∃ (q : Nat) (l : List Nat), q < 18446744073709551616 ∧ l ++ leb q = pre ++ leb z ∧ u = .int .u64 q ∧ Own wr 5 1 b l.length (bv l) ∧ Step w v wr b) (fun _ u _ => (intOf u).toNat)
        case atStart => exact ⟨z, pre, hz, rfl, rfl, hownk, hst⟩
        case round =>
          obtain ⟨q, l, hq2, hl1, rfl, hownl, hstl⟩ := hrel
          have hll : l.length + (leb q).length ≤ pre.length + 10 := by rw [← List.length_append, hl1, List.length_append]; omega
          by_cases hk2 : q < 128
          · rw [leb_small hk2] at hl1 hll
            go_wp2_with (at_builtin; go_must (refine wpList_push bytesT rfl _ _ rfl _ _ _ rfl hownl [_] 1 rfl rfl rfl (by simp at hll; omega) ?_; intro v' w' hown' hg'))
            go_roundw
            case rel => exact ⟨k + 1, by omega, by go_num, by rw [HT.out, ← List.append_assoc, HP.out, HE.out, ← hl1]; simpa [bv] using hown', hstl.trans hg'⟩
            case measure => simp [intOf]; omega
          · rw [leb_big hk2] at hl1 hll
            obtain ⟨c, hc8, hc9⟩ : ∃ c : Nat, IntKind.u8.wrap (q : Int) = (c : Int) ∧ c = q % 256 := ⟨q % 256, by rw [IntKind.wrap_u8]; omega, rfl⟩
            obtain ⟨d, hd8, hd9⟩ : ∃ d : Nat, bits BinOp.or IntKind.u8 (c : Int) 128 = (d : Int) ∧ d = q % 128 + 128 := by
              refine ⟨_, u8_or_nat c 128 (by omega) (by omega), ?_⟩
              subst hc9
              exact or128 q
            have HD := hid hd9
            clear hc9 hd9
            go_wp2_with (at_builtin; go_must (refine wpList_push bytesT rfl _ _ rfl _ _ _ rfl hownl [_] 1 rfl rfl rfl (by simp at hll; omega) ?_; intro v' w' hown' hg'))
            go_roundw
            case rel => exact ⟨q / 128, l ++ [q % 128 + 128], by omega, by simpa using hl1, by go_num, by rw [← HD.out]; simpa [bv] using hown', hstl.trans hg'⟩
            case measure => simp [intOf]; omega
    · obtain rfl : k = ns.length := by omega
      go_wp2
      go_ret
      rw [List.take_length] at hownk
      exact ⟨_, rfl, hownk, hst⟩
end Go.Proofs.Ytkeiffccllfkpaa
