/- Records: the reference's encoding, the program's appender, comparison. -/
import Derived.Test.YtkeiffccllfkpaaN3
namespace Go.Proofs.Ytkeiffccllfkpaa
open Go.RowKit

theorem fit_get (n : Nat) (l : List Int) (k : Nat) (h : k < (fit n l).length) : (fit n l)[k] = l.getD k 0 := by simp [fit]
theorem fit_wf {n : Nat} {l : List Int} (h : ∀ x ∈ l, I64 x) : ∀ x ∈ fit n l, I64 x := by
  intro x hx
  simp only [fit, List.mem_map, List.mem_range] at hx
  obtain ⟨i, _, rfl⟩ := hx
  rw [List.getD_eq_getElem?_getD]
  cases hi : l[i]? with
  | none => exact (by decide : I64 0)
  | some m => exact h m (List.mem_of_getElem? hi)
theorem encRec_len (x : Rec) (h : x.row.length ≤ 1000) (hs : ∀ n ∈ x.seq, I64 n) (hd : I64 x.day) : (encRec x).length ≤ 100000 := by
  unfold encRec
  have h1 := encRow_len x.row (by omega)
  have h2 := flat_enc_len (fit x.row.length x.seq) (fun n hn => fit_wf hs n hn)
  have h3 := enc_len hd.1 hd.2
  rw [fit_length] at h2
  simp only [List.length_append]
  omega
theorem wf_getD {l : List Int} (h : ∀ x ∈ l, I64 x) (k : Nat) : I64 (l.getD k 0) := by
  rw [List.getD_eq_getElem?_getD]
  cases hi : l[k]? with
  | none => exact (by decide : I64 0)
  | some m => exact h m (List.mem_of_getElem? hi)
set_option maxRecDepth 100000 in
set_option maxHeartbeats 1000000 in
theorem refRecord_walk (r q : Value) (x : Rec) (w : World) (hr : DRow w.heap.size w r x.row) (hq : Sl w 1 q x.seq.length (x.seq.map (Value.int .i64))) (hql : Lo q w.heap.size) (hs : ∀ n ∈ x.seq, I64 n) (hd : I64 x.day) (hl : x.row.length ≤ 1000) :
    Calls Try.prog 57 #[.agg #[r, q, .int .i64 x.day]] w fun e w' => ∃ v, e = .returned v ∧ Own w' 5 1 v (encRec x).length (bv (encRec x)) ∧ Fresh w w' v := by
  obtain ⟨ao, cap, rfl, hnc, hcm⟩ := hr.1.shape
  obtain ⟨ao2, cap2, rfl, hnc2, hcm2⟩ := hq.shape
  have HR := hid hr
  have HQ := hid (And.intro hq hql)
  have HS := hid hs
  have HD := hid hd
  clear hr hq hql hs hd
  have HLN := hid (fun (k : Nat) (hk : k < (fit x.row.length x.seq).length) => take_flat enc (fit x.row.length x.seq) k hk)
  have hfl := hid (fit_length x.row.length x.seq)
  go_enter Try.func57, Try.ntmps57
  go_wp2_with fail
  have ga := World.grownBy_alloc w (.cells #[.slice ao x.row.length cap, .slice ao2 x.seq.length cap2, .int .i64 x.day] 95) none
  have hb0 : (w.alloc (.cells #[.slice ao x.row.length cap, .slice ao2 x.seq.length cap2, .int .i64 x.day] 95)).heap[w.heap.size]? = some (.cells #[.slice ao x.row.length cap, .slice ao2 x.seq.length cap2, .int .i64 x.day] 95 (0, 0)) := heap_at rfl
  refine (refRow_walk _ x.row _ ((HR.out.grown ga).mono ga.size) (by omega)).mono ?_
  rintro e w1 ⟨v1, rfl, hown1, hst1⟩
  have hb1 := row_of (Step.none hst1) hb0 (by simp)
  have hst01 := Step.grown ga hst1
  clear ga hb0 hst1
  have B1 := hid hb1
  have O1 := hid hown1
  have F1 := hid hst01
  clear hb1 hown1 hst01
  go_wp2
  go_loopw [3, 4] (fun b i wr => ∃ k : Nat, k ≤ x.row.length ∧ i = .int .i64 k ∧ Own wr 5 1 b (encRow x.row ++ ((fit x.row.length x.seq).take k).flatMap enc).length (bv (encRow x.row ++ ((fit x.row.length x.seq).take k).flatMap enc)) ∧ Fresh w wr b ∧ wr.heap[w.heap.size]? = some (.cells #[.slice ao x.row.length cap, .slice ao2 x.seq.length cap2, .int .i64 x.day] 95 (0, 0))) (fun _ i _ => x.row.length - (intOf i).toNat)
  case atStart => exact ⟨0, Nat.zero_le _, rfl, by simpa using O1.out, F1.out, B1.out⟩
  case round =>
    obtain ⟨k, hk, rfl, hown, hst, hb⟩ := hrel
    have y0 : ∀ j, wr.cell? ⟨w.heap.size, j, none⟩ = (#[.slice ao x.row.length cap, .slice ao2 x.seq.length cap2, .int .i64 x.day] : Array Value)[j]? := fun j => cell_of_row wr _ j _ _ _ hb
    have OK := hid hown
    have SK := hid hst
    have BK := hid hb
    clear hown hst hb
    by_cases hlt : k < x.row.length
    · have hflt := HLN.out k (by rw [hfl.out]; exact hlt)
      rw [fit_get] at hflt
      have HT := hid hflt
      clear hflt
      have hz := wf_getD HS.out k
      have hlen : (encRow x.row ++ ((fit x.row.length x.seq).take k).flatMap enc).length + 10 ≤ 1099511627776 := by
        have h1 := encRow_len x.row (by omega)
        have h2 := flat_enc_len ((fit x.row.length x.seq).take k) (fun n hn => fit_wf HS.out n (List.mem_of_mem_take hn))
        have h3 := List.length_take_le k (fit x.row.length x.seq)
        rw [List.length_append]
        omega
      have HZ := hid hz
      have HLEN := hid hlen
      clear hlen
      by_cases hq2 : k < x.seq.length
      all_goals
        have hgd : x.seq.getD k 0 = x.seq.getD k 0 := rfl
        clear hgd
      · obtain ⟨blk, off, rfl, hc⟩ := (HQ.out.1.below' (none_below SK.out.1) HQ.out.2).at k (by simpa using hq2)
        have h0 : wr.cell? ⟨blk, off + k, none⟩ = some (.int .i64 (x.seq.getD k 0)) := by
          rw [hc k (by simpa using hq2), List.getElem_map, List.getD_eq_getElem?_getD, List.getElem?_eq_getElem hq2]; rfl
        generalize x.seq.getD k 0 = z at *
        clear hc
        go_wp2_with fail
        refine (refInt_walk z wr hz.1 hz.2).mono ?_
        rintro e w3 ⟨v3, rfl, hown3, hst3⟩
        have hown4 := OK.out.kn (Step.none hst3)
        have hel := enc_len hz.1 hz.2
        have O3 := hid (And.intro hown3 (And.intro hown4 (And.intro hst3 (row_of (Step.none hst3) BK.out (by simp)))))
        have HEL := hid hel
        clear hown3 hown4 hst3 hel y0 h0
        go_wp2_with (at_builtin; go_must (refine wpList_app bytesT rfl _ _ rfl _ _ _ rfl O3.out.2.1 _ _ _ rfl (Sl.of_own O3.out.1) bv_ones (by have := HLEN.out; have := HEL.out; omega) ?_; intro v5 w5 hown5 hst5))
        go_roundw
        case rel => exact ⟨k + 1, by omega, by go_num, by rw [HT.out, ← List.append_assoc, List.length_append (bs := enc z), bv_append _ (enc z)]; exact hown5, SK.out.trans (Step.grown O3.out.2.2.1.1 hst5), row_of hst5.1 O3.out.2.2.2 (fun e => Own.ne O3.out.2.1 O3.out.2.2.2 (by decide) e.symm)⟩
        case measure => simp [intOf]; omega
      · have hz0 : x.seq.getD k 0 = 0 := by rw [List.getD_eq_getElem?_getD, List.getElem?_eq_none (by omega)]; rfl
        rw [hz0] at HT
        clear hz hz0 HZ
        go_wp2_with fail
        refine (refInt_walk 0 wr (by omega) (by omega)).mono ?_
        rintro e w3 ⟨v3, rfl, hown3, hst3⟩
        have hown4 := OK.out.kn (Step.none hst3)
        have hel := enc_len (n := 0) (by omega) (by omega)
        have O3 := hid (And.intro hown3 (And.intro hown4 (And.intro hst3 (row_of (Step.none hst3) BK.out (by simp)))))
        have HEL := hid hel
        clear hown3 hown4 hst3 hel y0
        go_wp2_with (at_builtin; go_must (refine wpList_app bytesT rfl _ _ rfl _ _ _ rfl O3.out.2.1 _ _ _ rfl (Sl.of_own O3.out.1) bv_ones (by have := HLEN.out; have := HEL.out; omega) ?_; intro v5 w5 hown5 hst5))
        go_roundw
        case rel => exact ⟨k + 1, by omega, by go_num, by rw [HT.out, ← List.append_assoc, List.length_append (bs := enc 0), bv_append _ (enc 0)]; exact hown5, SK.out.trans (Step.grown O3.out.2.2.1.1 hst5), row_of hst5.1 O3.out.2.2.2 (fun e => Own.ne O3.out.2.1 O3.out.2.2.2 (by decide) e.symm)⟩
        case measure => simp [intOf]; omega
    · obtain rfl : k = x.row.length := by omega
      have hdd := HD.out
      have hft : (fit x.row.length x.seq).take x.row.length = fit x.row.length x.seq := List.take_of_length_le (by rw [fit_length]; omega)
      have O := OK.out
      rw [hft] at O
      have OO := hid O
      have hlen : (encRow x.row ++ (fit x.row.length x.seq).flatMap enc).length + 10 ≤ 1099511627776 := by
        have h1 := encRow_len x.row (by omega)
        have h2 := flat_enc_len (fit x.row.length x.seq) (fun n hn => fit_wf HS.out n hn)
        have h3 := hfl.out
        rw [List.length_append]
        omega
      have HLEN := hid hlen
      have hel := hid (enc_len hdd.1 hdd.2)
      clear O hft OK hlen
      go_wp2_with fail
      refine (refInt_walk x.day wr hdd.1 hdd.2).mono ?_
      rintro e w3 ⟨v3, rfl, hown3, hst3⟩
      have hown4 := OO.out.kn (Step.none hst3)
      have O3 := hid (And.intro hown3 (And.intro hown4 hst3))
      clear hown3 hown4 hst3 y0
      go_wp2_with (at_builtin; go_must (refine wpList_app bytesT rfl _ _ rfl _ _ _ rfl O3.out.2.1 _ _ _ rfl (Sl.of_own O3.out.1) bv_ones (by have := HLEN.out; have := hel.out; omega) ?_; intro v5 w5 hown5 hst5))
      go_ret
      exact ⟨_, rfl, by unfold encRec; rw [← List.append_assoc, List.length_append (bs := enc x.day), bv_append _ (enc x.day)]; exact hown5, SK.out.trans (Step.grown O3.out.2.2.1 hst5)⟩

set_option maxRecDepth 100000 in
set_option maxHeartbeats 1000000 in
theorem record_app (v r q : Value) (x : Rec) (xs : List Nat) (w : World) (B : Nat) (hown : Own w 5 1 v xs.length (bv xs)) (hi : Hi v B) (hr : DRow B w r x.row) (hq : Sl w 1 q x.seq.length (x.seq.map (Value.int .i64))) (hql : Lo q B) (hB : B ≤ w.heap.size) (hs : ∀ n ∈ x.seq, I64 n) (hd : I64 x.day) (hl : x.row.length ≤ 1000) (hlx : xs.length + 200000 ≤ 1099511627776) :
    Calls Try.prog 132 #[v, .agg #[r, q, .int .i64 x.day]] w (AppPost w v (xs ++ encRec x)) := by
  obtain ⟨ao, cap, rfl, hnc, hcm⟩ := hr.1.shape
  obtain ⟨ao2, cap2, rfl, hnc2, hcm2⟩ := hq.shape
  have HR := hid hr
  have HQ := hid (And.intro hq hql)
  have HS := hid hs
  have HD := hid hd
  have HI := hid hi
  have HOW := hid hown
  clear hr hq hql hs hd hi hown
  have HLN := hid (fun (k : Nat) (hk : k < (fit x.row.length x.seq).length) => take_flat enc (fit x.row.length x.seq) k hk)
  have hfl := hid (fit_length x.row.length x.seq)
  go_enter Try.func132, Try.ntmps132
  go_wp2_with fail
  have ga := World.grownBy_alloc w (.cells #[.slice ao x.row.length cap, .slice ao2 x.seq.length cap2, .int .i64 x.day] 95) none
  have hb0 : (w.alloc (.cells #[.slice ao x.row.length cap, .slice ao2 x.seq.length cap2, .int .i64 x.day] 95)).heap[w.heap.size]? = some (.cells #[.slice ao x.row.length cap, .slice ao2 x.seq.length cap2, .int .i64 x.day] 95 (0, 0)) := heap_at rfl
  refine (row_app v _ x.row xs _ B (HOW.out.alloc _) HI.out (HR.out.below (grown_below ga hB (fun k hk => by cases hk))) (by have := ga.size; omega) (by omega)).mono ?_
  rintro e w1 ⟨v1, rfl, hown1, hst1⟩
  have hb1 := Own.row (HOW.out.alloc _) hst1 (by decide) hb0
  have hst01 := Step.grown ga hst1
  clear ga hb0 hst1
  have B1 := hid hb1
  have O1 := hid hown1
  have F1 := hid hst01
  have z0 : ∀ j, w1.cell? ⟨w.heap.size, j, none⟩ = (#[.slice ao x.row.length cap, .slice ao2 x.seq.length cap2, .int .i64 x.day] : Array Value)[j]? := fun j => cell_of_row w1 _ j _ _ _ hb1
  clear hb1 hown1 hst01
  go_wp2
  clear z0
  go_loopw [0, 14] (fun b i wr => ∃ k : Nat, k ≤ x.row.length ∧ i = .int .i64 k ∧ Own wr 5 1 b (xs ++ encRow x.row ++ ((fit x.row.length x.seq).take k).flatMap enc).length (bv (xs ++ encRow x.row ++ ((fit x.row.length x.seq).take k).flatMap enc)) ∧ Step w v wr b ∧ wr.heap[w.heap.size]? = some (.cells #[.slice ao x.row.length cap, .slice ao2 x.seq.length cap2, .int .i64 x.day] 95 (0, 0))) (fun _ i _ => x.row.length - (intOf i).toNat)
  case atStart => exact ⟨0, Nat.zero_le _, rfl, by simpa using O1.out, F1.out, B1.out⟩
  case round =>
    obtain ⟨k, hk, rfl, hown, hst, hb⟩ := hrel
    have y0 : ∀ j, wr.cell? ⟨w.heap.size, j, none⟩ = (#[.slice ao x.row.length cap, .slice ao2 x.seq.length cap2, .int .i64 x.day] : Array Value)[j]? := fun j => cell_of_row wr _ j _ _ _ hb
    have OK := hid hown
    have SK := hid hst
    have BK := hid hb
    clear hown hst hb
    by_cases hlt : k < x.row.length
    · have hflt := HLN.out k (by rw [hfl.out]; exact hlt)
      rw [fit_get] at hflt
      have HT := hid hflt
      clear hflt
      have hz := wf_getD HS.out k
      have hlen : (xs ++ encRow x.row ++ ((fit x.row.length x.seq).take k).flatMap enc).length + 10 ≤ 1099511627776 := by
        have h1 := encRow_len x.row (by omega)
        have h2 := flat_enc_len ((fit x.row.length x.seq).take k) (fun n hn => fit_wf HS.out n (List.mem_of_mem_take hn))
        have h3 := List.length_take_le k (fit x.row.length x.seq)
        rw [List.length_append, List.length_append]
        omega
      have HZ := hid hz
      have HLEN := hid hlen
      clear hlen
      by_cases hq2 : k < x.seq.length
      · obtain ⟨blk, off, rfl, hc⟩ := (HQ.out.1.below' (HI.out.below SK.out hB) HQ.out.2).at k (by simpa using hq2)
        have h0 : wr.cell? ⟨blk, off + k, none⟩ = some (.int .i64 (x.seq.getD k 0)) := by
          rw [hc k (by simpa using hq2), List.getElem_map, List.getD_eq_getElem?_getD, List.getElem?_eq_getElem hq2]; rfl
        generalize x.seq.getD k 0 = z at *
        clear hc
        go_wp2_with fail
        refine (intsL_walk u0 [z] _ wr _ _ 1 OK.out rfl rfl (fun m hm => by simp at hm; subst hm; exact HZ.out) (by have := HLEN.out; simp only [List.length_cons, List.length_nil]; omega)).mono ?_
        rintro e w3 ⟨v3, rfl, hown3, hst3⟩
        have O3 := hid (And.intro hown3 (And.intro hst3 (Own.row OK.out hst3 (by decide) BK.out)))
        clear hown3 hst3 y0 h0
        go_wp2
        go_roundw
        case rel => exact ⟨k + 1, by omega, by go_num, by rw [HT.out, ← List.append_assoc]; simpa using O3.out.1, SK.out.trans O3.out.2.1, O3.out.2.2⟩
        case measure => simp [intOf]; omega
      · have hz0 : x.seq.getD k 0 = 0 := by rw [List.getD_eq_getElem?_getD, List.getElem?_eq_none (by omega)]; rfl
        rw [hz0] at HT
        clear hz hz0 HZ
        go_wp2_with fail
        refine (intsL_walk u0 [0] _ wr _ _ 1 OK.out rfl rfl (fun m hm => by simp at hm; subst hm; exact ⟨by omega, by omega⟩) (by have := HLEN.out; simp only [List.length_cons, List.length_nil]; omega)).mono ?_
        rintro e w3 ⟨v3, rfl, hown3, hst3⟩
        have O3 := hid (And.intro hown3 (And.intro hst3 (Own.row OK.out hst3 (by decide) BK.out)))
        clear hown3 hst3 y0
        go_wp2
        go_roundw
        case rel => exact ⟨k + 1, by omega, by go_num, by rw [HT.out, ← List.append_assoc]; simpa using O3.out.1, SK.out.trans O3.out.2.1, O3.out.2.2⟩
        case measure => simp [intOf]; omega
    · obtain rfl : k = x.row.length := by omega
      have hft : (fit x.row.length x.seq).take x.row.length = fit x.row.length x.seq := List.take_of_length_le (by rw [fit_length]; omega)
      have O := OK.out
      rw [hft] at O
      have OO := hid O
      have hlen : (xs ++ encRow x.row ++ (fit x.row.length x.seq).flatMap enc).length + 10 ≤ 1099511627776 := by
        have h1 := encRow_len x.row (by omega)
        have h2 := flat_enc_len (fit x.row.length x.seq) (fun n hn => fit_wf HS.out n hn)
        have h3 := hfl.out
        rw [List.length_append, List.length_append]
        omega
      have HLEN := hid hlen
      clear O hft OK hlen
      go_wp2_with fail
      refine (intsL_walk u0 [x.day] _ wr _ _ 1 OO.out rfl rfl (fun m hm => by simp at hm; subst hm; exact HD.out) (by have := HLEN.out; simp only [List.length_cons, List.length_nil]; omega)).mono ?_
      rintro e w3 ⟨v3, rfl, hown3, hst3⟩
      go_wp2
      go_ret
      exact ⟨_, rfl, by unfold encRec; simpa using hown3, SK.out.trans hst3⟩
theorem encRec_pos (x : Rec) : 0 < (encRec x).length := by
  unfold encRec
  have := enc_pos x.day
  simp only [List.length_append]
  omega
set_option maxRecDepth 100000 in
theorem recARecord_walk (w : World) : CallsD Try.prog 131 #[] .returning w fun e u' w' => e = .returned (.tuple #[]) ∧ u' = .returning ∧ w' = w := by
  refine callsD_of_wpS Try.func131 rfl fun c₀ cs hu => ?_
  apply wpS_region
  simp [wpOpsS, go_sem, recoverD, hu, Try.ntmps131]
  cases c₀
  simp_all [bodyPostS, results, Try.results131]
set_option maxRecDepth 100000 in
theorem appendRecord_walk (v r q : Value) (x : Rec) (xs : List Nat) (w : World) (hv : Sl w 1 v xs.length (bv xs)) (hvb : Lo v w.heap.size) (hr : DRow w.heap.size w r x.row) (hq : Sl w 1 q x.seq.length (x.seq.map (Value.int .i64))) (hql : Lo q w.heap.size) (hs : ∀ n ∈ x.seq, I64 n) (hd : I64 x.day) (hl : x.row.length ≤ 1000) (hlx : xs.length + 200000 ≤ 1099511627776) :
    Calls Try.prog 55 #[v, .agg #[r, q, .int .i64 x.day]] w fun e w' => ∃ v', e = .returned v' ∧ Own w' 5 1 v' (xs ++ encRec x).length (bv (xs ++ encRec x)) ∧ Fresh w w' v' := by
  have hep := encRec_pos x
  have hel := encRec_len x hl hs hd
  obtain ⟨ao, cap, rfl, hnc, hcm⟩ := hr.1.shape
  obtain ⟨ao2, cap2, rfl, hnc2, hcm2⟩ := hq.shape
  have HR := hid hr
  have HQ := hid (And.intro hq hql)
  have HS := hid hs
  have HD := hid hd
  clear hr hq hql hs hd
  go_enter_defers Try.func55, Try.ntmps55
  go_wp2_with fail
  have ga := World.grownBy_alloc w (.cells #[.slice ao x.row.length cap, .slice ao2 x.seq.length cap2, .int .i64 x.day] 95) none
  refine (record_app nilS _ _ x [] _ w.heap.size (Own.nil _ _ _) (fun k hk => by simp [Value.ownBlock] at hk) (HR.out.grown ga) (HQ.out.1.kn ga) HQ.out.2 ga.size HS.out HD.out hl (by simp)).mono ?_
  rintro e w1 ⟨v1, rfl, hown1, hg1⟩
  rw [List.nil_append] at hown1
  have g01 := grown_trans ga (Step.none hg1)
  have hv1 := hv.below (none_below g01) hvb
  go_wp2_with fail
  refine (extend_walk v v1 xs (encRec x) _ hv1 (Sl.of_own hown1) hep (by omega)).mono ?_
  rintro e w2 ⟨v2, rfl, hown2, hg2⟩
  go_wp2
  refine leaves_cons (f := 131) (args := #[]) (by simp) (by simp [go_sem]) ?_
  refine (recARecord_walk _).mono ?_
  rintro e u' w'' ⟨rfl, rfl, rfl⟩
  exact ⟨v2, results_tmp (t := 4) rfl _ _ _, _, rfl, hown2, Step.grown g01 hg2⟩

theorem sameRow22_same (a b : Value) (l : List V) (w : World) (ha : Sl w 3 a l.length (l.flatMap vcells)) (hb : Sl w 3 b l.length (l.flatMap vcells)) :
    Calls Try.prog 121 #[a, b] w fun e w' => e = .returned (.bool true) ∧ w.grownBy w' none :=
  (sameRow22_walk a b l l w ha hb).mono fun e w' ⟨he, hg⟩ => ⟨by rw [he]; simp, hg⟩
set_option maxRecDepth 100000 in
theorem sameRecord22_walk (r q r2 q2 : Value) (l : List V) (s : List Int) (d : Int) (w : World) (hr : Sl w 3 r l.length (l.flatMap vcells)) (hr2 : Sl w 3 r2 l.length (l.flatMap vcells)) (hq : Sl w 1 q s.length (s.map (Value.int .i64))) (hq2 : Sl w 1 q2 s.length (s.map (Value.int .i64))) :
    Calls Try.prog 135 #[.agg #[r, q, .int .i64 d], .agg #[r2, q2, .int .i64 d]] w fun e w' => e = .returned (.bool true) ∧ w.grownBy w' none := by
  obtain ⟨ao, cap, rfl, hnc, hcm⟩ := hr.shape
  obtain ⟨ao2, cap2, rfl, hnc2, hcm2⟩ := hq.shape
  obtain ⟨ao3, cap3, rfl, hnc3, hcm3⟩ := hr2.shape
  obtain ⟨ao4, cap4, rfl, hnc4, hcm4⟩ := hq2.shape
  have H := hid (And.intro hr (And.intro hr2 (And.intro hq hq2)))
  clear hr hr2 hq hq2
  go_enter Try.func135, Try.ntmps135
  go_wp2_with fail
  have ga := World.grownBy_alloc w (.cells #[.slice ao l.length cap, .slice ao2 s.length cap2, .int .i64 d] 95) none
  have gb := grown_trans ga (World.grownBy_alloc _ (.cells #[.slice ao3 l.length cap3, .slice ao4 s.length cap4, .int .i64 d] 95) none)
  refine (sameRow22_same _ _ l _ (H.out.1.kn gb) (H.out.2.1.kn gb)).mono ?_
  rintro e w1 ⟨rfl, hg1⟩
  have hb1 := row_of hg1 (row_of (World.grownBy_alloc _ (.cells #[.slice ao3 l.length cap3, .slice ao4 s.length cap4, .int .i64 d] 95) none) (heap_at (w := w) (o := .cells #[.slice ao l.length cap, .slice ao2 s.length cap2, .int .i64 d] 95) rfl) (by simp)) (by simp)
  have hb2 := row_of hg1 (heap_at (w := w.alloc (.cells #[.slice ao l.length cap, .slice ao2 s.length cap2, .int .i64 d] 95)) (o := .cells #[.slice ao3 l.length cap3, .slice ao4 s.length cap4, .int .i64 d] 95) (n := w.heap.size + 1) (by simp)) (by simp)
  have G1 := hid (grown_trans gb hg1)
  have y0 : ∀ j, w1.cell? ⟨w.heap.size, j, none⟩ = (#[.slice ao l.length cap, .slice ao2 s.length cap2, .int .i64 d] : Array Value)[j]? := fun j => cell_of_row w1 _ j _ _ _ hb1
  have y1 : ∀ j, w1.cell? ⟨w.heap.size + 1, j, none⟩ = (#[.slice ao3 l.length cap3, .slice ao4 s.length cap4, .int .i64 d] : Array Value)[j]? := fun j => cell_of_row w1 _ j _ _ _ hb2
  have B1 := hid (And.intro hb1 hb2)
  clear hg1 gb ga hb1 hb2
  go_wp2_with fail
  refine (sameInts_walk _ _ s _ (H.out.2.2.1.kn G1.out) (H.out.2.2.2.kn G1.out)).mono ?_
  rintro e w2 ⟨rfl, hg2⟩
  have z0 : ∀ j, w2.cell? ⟨w.heap.size, j, none⟩ = (#[.slice ao l.length cap, .slice ao2 s.length cap2, .int .i64 d] : Array Value)[j]? := fun j => cell_of_row w2 _ j _ _ _ (row_of hg2 B1.out.1 (by simp))
  have z1 : ∀ j, w2.cell? ⟨w.heap.size + 1, j, none⟩ = (#[.slice ao3 l.length cap3, .slice ao4 s.length cap4, .int .i64 d] : Array Value)[j]? := fun j => cell_of_row w2 _ j _ _ _ (row_of hg2 B1.out.2 (by simp))
  have G2 := hid (grown_trans G1.out hg2)
  clear hg2 y0 y1
  go_wp2
  go_ret
  exact ⟨rfl, G2.out⟩
set_option maxRecDepth 100000 in
theorem sameRecord_walk (r q r2 q2 : Value) (l : List V) (s : List Int) (d : Int) (w : World) (hr : Sl w 3 r l.length (l.flatMap vcells)) (hr2 : Sl w 3 r2 l.length (l.flatMap vcells)) (hq : Sl w 1 q s.length (s.map (Value.int .i64))) (hq2 : Sl w 1 q2 s.length (s.map (Value.int .i64))) :
    Calls Try.prog 58 #[.agg #[r, q, .int .i64 d], .agg #[r2, q2, .int .i64 d]] w fun e w' => e = .returned (.bool true) ∧ w.grownBy w' none := by
  obtain ⟨ao, cap, rfl, hnc, hcm⟩ := hr.shape
  obtain ⟨ao2, cap2, rfl, hnc2, hcm2⟩ := hq.shape
  obtain ⟨ao3, cap3, rfl, hnc3, hcm3⟩ := hr2.shape
  obtain ⟨ao4, cap4, rfl, hnc4, hcm4⟩ := hq2.shape
  have H := hid (And.intro hr (And.intro hr2 (And.intro hq hq2)))
  clear hr hr2 hq hq2
  go_enter Try.func58, Try.ntmps58
  go_wp2_with fail
  have ga := World.grownBy_alloc w (.cells #[.slice ao l.length cap, .slice ao2 s.length cap2, .int .i64 d] 95) none
  have gb := grown_trans ga (World.grownBy_alloc _ (.cells #[.slice ao3 l.length cap3, .slice ao4 s.length cap4, .int .i64 d] 95) none)
  refine (sameRecord22_walk _ _ _ _ l s d _ (H.out.1.kn gb) (H.out.2.1.kn gb) (H.out.2.2.1.kn gb) (H.out.2.2.2.kn gb)).mono ?_
  rintro e w1 ⟨rfl, hg1⟩
  have G1 := hid (grown_trans gb hg1)
  clear hg1 gb ga
  go_wp2
  go_ret
  exact ⟨rfl, G1.out⟩
end Go.Proofs.Ytkeiffccllfkpaa
