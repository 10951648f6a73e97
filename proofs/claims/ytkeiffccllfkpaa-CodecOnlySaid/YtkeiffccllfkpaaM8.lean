/- Exported appenders of lists; the reference's lists. (merged by merge.py) -/
import Derived.Test.YtkeiffccllfkpaaM3
import Derived.Test.YtkeiffccllfkpaaM6
import Derived.Deep.RegionHeld3
namespace Go.Proofs.Ytkeiffccllfkpaa

/-! ## Ap2 -/
section
open Go.RowKit

theorem intsLH_walk (v : Value) (ns : List Int) (xs : List Nat) (w : World) (T : TypeId) (cs : Array Value) (m H : Nat) (hH : H = w.heap.size) (hown : Own w 5 1 v xs.length (bv xs)) (hm : m = ns.length) (hcs : cs = (ns.map (Value.int .i64)).toArray)
    (hr : ∀ n ∈ ns, I64 n) (hlen : xs.length + 10 * ns.length ≤ 1099511627776) :
    Calls Try.prog 89 #[v, .slice (some ⟨H, 0, none⟩) m m] (w.alloc (.cells cs T)) (AppPost w v (xs ++ ns.flatMap enc)) := by
  subst hH
  exact intsL_walk v ns xs w T cs m hown hm hcs hr hlen
/-- s reads as the list l, from blocks below B -/
def DVers (B : Nat) (w : World) (s : Value) (l : List Ver) : Prop := Sl w 3 s l.length (l.flatMap vercells) ∧ Lo s B
theorem DVers.below {B : Nat} {w w' : World} {s : Value} {l : List Ver} (h : DVers B w s l) (hb : Below B w w') : DVers B w' s l := ⟨h.1.below hb h.2, h.2⟩
theorem encVer_len {x : Ver} (h : x.wf) : (encVer x).length ≤ 30 := by
  unfold encVer
  have h0 := enc_len h.table.1 h.table.2
  have h1 := enc_len h.column.1 h.column.2
  have h2 := enc_len h.seq.1 h.seq.2
  simp only [List.length_append]
  omega
set_option maxRecDepth 100000 in
set_option maxHeartbeats 1000000 in
theorem versions_app (v s : Value) (l : List Ver) (xs : List Nat) (w : World) (B : Nat) (hown : Own w 5 1 v xs.length (bv xs)) (hi : Hi v B) (hs : DVers B w s l) (hB : B ≤ w.heap.size) (hw : ∀ x ∈ l, x.wf) (hl : xs.length + 20 + 30 * l.length ≤ 1099511627776) :
    Calls Try.prog 102 #[v, s] w (AppPost w v (xs ++ encVers l)) := by
  obtain ⟨ao, cap, rfl, hnc, hcm⟩ := hs.1.shape
  have HS := hid hs
  have HI := hid hi
  have HW := hid hw
  clear hs hi hw
  go_enter Try.func102, Try.ntmps102
  go_wp2_with fail
  refine (intsL_walk v [(l.length : Int)] xs w _ _ 1 hown rfl rfl (fun m hm => by simp at hm; subst hm; exact ⟨by omega, by omega⟩) (by simp; omega)).mono ?_
  rintro e w1 ⟨v1, rfl, hown1, hst1⟩
  simp only [List.flatMap_cons, List.flatMap_nil, List.append_nil] at hown1
  have hel := enc_len (n := (l.length : Int)) (by omega) (by omega)
  have HE := hid hel
  clear hel
  go_wp2
  go_loopw [0, 14] (fun b i wr => ∃ k : Nat, k ≤ l.length ∧ i = .int .i64 k ∧ Own wr 5 1 b (xs ++ enc l.length ++ (l.take k).flatMap encVer).length (bv (xs ++ enc l.length ++ (l.take k).flatMap encVer)) ∧ Step w v wr b) (fun _ i _ => l.length - (intOf i).toNat)
  case atStart => exact ⟨0, Nat.zero_le _, rfl, by simpa using hown1, hst1⟩
  case round =>
    obtain ⟨k, hk, rfl, hownk, hstk⟩ := hrel
    by_cases hlt : k < l.length
    · have hbel := HI.out.below hstk hB
      obtain ⟨blk, off, rfl, hc⟩ := (HS.out.below hbel).1.elem (fun x _ => rfl) (by decide) k hlt
      have h0 : wr.cell? ⟨blk, off + k * 3, none⟩ = some (.int .i64 l[k].table) := hc 0 _ rfl
      have h1 : wr.cell? ⟨blk, off + k * 3 + 1, none⟩ = some (.int .i64 l[k].column) := hc 1 _ rfl
      have h2 : wr.cell? ⟨blk, off + k * 3 + 2, none⟩ = some (.int .i64 l[k].seq) := hc 2 _ rfl
      have hxw := HW.out _ (List.getElem_mem hlt)
      have HT := hid (take_flat encVer l k hlt)
      have hfl := flat_len (l.take k) (n := 30) (f := encVer) fun x hx => encVer_len (HW.out x (List.mem_of_mem_take hx))
      rw [List.length_take, Nat.min_eq_left (by omega)] at hfl
      have hl2 : (xs ++ enc l.length ++ (l.take k).flatMap encVer).length + 30 ≤ 1099511627776 := by
        have := HE.out
        simp only [List.length_append]
        omega
      generalize hx : l[k] = x at *
      clear hc hx hfl
      have OK := hid hownk
      have SK := hid hstk
      clear hownk hstk
      generalize hpre : xs ++ enc l.length ++ (l.take k).flatMap encVer = pre at *
      have HP := hid hpre
      clear hpre
      go_wp2_with fail
      refine (intsLH_walk u0 [x.table, x.seq, x.column] pre _ _ _ 3 (wr.heap.size + 1) (by simp) (OK.out.alloc _) rfl rfl (by simp only [List.mem_cons, List.not_mem_nil, or_false]; rintro n (rfl | rfl | rfl) <;> first | exact hxw.table | exact hxw.seq | exact hxw.column) (by simp only [List.length_cons, List.length_nil]; omega)).mono ?_
      rintro e w2 ⟨v2, rfl, hown2, hst2⟩
      go_wp2
      go_roundw
      case rel => exact ⟨k + 1, by omega, by go_num, by rw [HT.out, ← List.append_assoc, HP.out]; unfold encVer; simpa using hown2, SK.out.trans hst2.alloc⟩
      case measure => simp [intOf]; omega
    · obtain rfl : k = l.length := by omega
      go_wp2
      go_ret
      rw [List.take_length] at hownk
      exact ⟨_, rfl, by unfold encVers; rw [← List.append_assoc]; exact hownk, hstk⟩

/-- s reads as the list l, from blocks below B -/
def DSrcs (B : Nat) (w : World) (s : Value) (l : List Src) : Prop := Sl w 2 s l.length (l.flatMap srccells) ∧ Lo s B
theorem DSrcs.below {B : Nat} {w w' : World} {s : Value} {l : List Src} (h : DSrcs B w s l) (hb : Below B w w') : DSrcs B w' s l := ⟨h.1.below hb h.2, h.2⟩
theorem encSrc_len {x : Src} (h : x.wf) : (encSrc x).length ≤ 20 := by
  unfold encSrc
  have h0 := enc_len h.table.1 h.table.2
  have h1 := enc_len h.seq.1 h.seq.2
  simp only [List.length_append]
  omega
set_option maxRecDepth 100000 in
set_option maxHeartbeats 1000000 in
theorem sources_app (v s : Value) (l : List Src) (xs : List Nat) (w : World) (B : Nat) (hown : Own w 5 1 v xs.length (bv xs)) (hi : Hi v B) (hs : DSrcs B w s l) (hB : B ≤ w.heap.size) (hw : ∀ x ∈ l, x.wf) (hl : xs.length + 20 + 20 * l.length ≤ 1099511627776) :
    Calls Try.prog 99 #[v, s] w (AppPost w v (xs ++ encSrcs l)) := by
  obtain ⟨ao, cap, rfl, hnc, hcm⟩ := hs.1.shape
  have HS := hid hs
  have HI := hid hi
  have HW := hid hw
  clear hs hi hw
  go_enter Try.func99, Try.ntmps99
  go_wp2_with fail
  refine (intsL_walk v [(l.length : Int)] xs w _ _ 1 hown rfl rfl (fun m hm => by simp at hm; subst hm; exact ⟨by omega, by omega⟩) (by simp; omega)).mono ?_
  rintro e w1 ⟨v1, rfl, hown1, hst1⟩
  simp only [List.flatMap_cons, List.flatMap_nil, List.append_nil] at hown1
  have hel := enc_len (n := (l.length : Int)) (by omega) (by omega)
  have HE := hid hel
  clear hel
  go_wp2
  go_loopw [0, 14] (fun b i wr => ∃ k : Nat, k ≤ l.length ∧ i = .int .i64 k ∧ Own wr 5 1 b (xs ++ enc l.length ++ (l.take k).flatMap encSrc).length (bv (xs ++ enc l.length ++ (l.take k).flatMap encSrc)) ∧ Step w v wr b) (fun _ i _ => l.length - (intOf i).toNat)
  case atStart => exact ⟨0, Nat.zero_le _, rfl, by simpa using hown1, hst1⟩
  case round =>
    obtain ⟨k, hk, rfl, hownk, hstk⟩ := hrel
    by_cases hlt : k < l.length
    · have hbel := HI.out.below hstk hB
      obtain ⟨blk, off, rfl, hc⟩ := (HS.out.below hbel).1.elem (fun x _ => rfl) (by decide) k hlt
      have h0 : wr.cell? ⟨blk, off + k * 2, none⟩ = some (.int .i64 l[k].table) := hc 0 _ rfl
      have h1 : wr.cell? ⟨blk, off + k * 2 + 1, none⟩ = some (.int .i64 l[k].seq) := hc 1 _ rfl
      have hxw := HW.out _ (List.getElem_mem hlt)
      have HT := hid (take_flat encSrc l k hlt)
      have hfl := flat_len (l.take k) (n := 20) (f := encSrc) fun x hx => encSrc_len (HW.out x (List.mem_of_mem_take hx))
      rw [List.length_take, Nat.min_eq_left (by omega)] at hfl
      have hl2 : (xs ++ enc l.length ++ (l.take k).flatMap encSrc).length + 20 ≤ 1099511627776 := by
        have := HE.out
        simp only [List.length_append]
        omega
      generalize hx : l[k] = x at *
      clear hc hx hfl
      have OK := hid hownk
      have SK := hid hstk
      clear hownk hstk
      generalize hpre : xs ++ enc l.length ++ (l.take k).flatMap encSrc = pre at *
      have HP := hid hpre
      clear hpre
      go_wp2_with fail
      refine (intsLH_walk u0 [x.table, x.seq] pre _ _ _ 2 (wr.heap.size + 1) (by simp) (OK.out.alloc _) rfl rfl (by simp only [List.mem_cons, List.not_mem_nil, or_false]; rintro n (rfl | rfl) <;> first | exact hxw.table | exact hxw.seq) (by simp only [List.length_cons, List.length_nil]; omega)).mono ?_
      rintro e w2 ⟨v2, rfl, hown2, hst2⟩
      go_wp2
      go_roundw
      case rel => exact ⟨k + 1, by omega, by go_num, by rw [HT.out, ← List.append_assoc, HP.out]; unfold encSrc; simpa using hown2, SK.out.trans hst2.alloc⟩
      case measure => simp [intOf]; omega
    · obtain rfl : k = l.length := by omega
      go_wp2
      go_ret
      rw [List.take_length] at hownk
      exact ⟨_, rfl, by unfold encSrcs; rw [← List.append_assoc]; exact hownk, hstk⟩
end

/-! ## Aw1 -/
section
open Go.RowKit

theorem enc_pos (n : Int) : 0 < (enc n).length := by
  have := leb_pos (zig n)
  unfold enc
  omega
theorem encVers_len {l : List Ver} (hw : ∀ x ∈ l, x.wf) (h : l.length ≤ 9223372036854775807) : (encVers l).length ≤ 10 + 30 * l.length := by
  unfold encVers
  have h1 := enc_len (n := (l.length : Int)) (by omega) (by omega)
  have h2 := flat_len l (f := encVer) (n := 30) fun x hx => encVer_len (hw x hx)
  rw [List.length_append]; omega
theorem encSrcs_len {l : List Src} (hw : ∀ x ∈ l, x.wf) (h : l.length ≤ 9223372036854775807) : (encSrcs l).length ≤ 10 + 20 * l.length := by
  unfold encSrcs
  have h1 := enc_len (n := (l.length : Int)) (by omega) (by omega)
  have h2 := flat_len l (f := encSrc) (n := 20) fun x hx => encSrc_len (hw x hx)
  rw [List.length_append]; omega
set_option maxRecDepth 100000 in
theorem recAVersions_walk (w : World) : CallsD Try.prog 101 #[] .returning w fun e u' w' => e = .returned (.tuple #[]) ∧ u' = .returning ∧ w' = w := by
  refine callsD_of_wpS Try.func101 rfl fun c₀ cs hu => ?_
  apply wpS_region
  simp [wpOpsS, go_sem, recoverD, hu, Try.ntmps101]
  cases c₀
  simp_all [bodyPostS, results, Try.results101]
set_option maxRecDepth 100000 in
theorem appendVersions_walk (v s : Value) (l : List Ver) (xs : List Nat) (w : World) (hv : Sl w 1 v xs.length (bv xs)) (hvb : Lo v w.heap.size) (hs : DVers w.heap.size w s l) (hw : ∀ x ∈ l, x.wf) (hl : xs.length + 20 + 30 * l.length ≤ 1099511627776) :
    Calls Try.prog 29 #[v, s] w fun e w' => ∃ v', e = .returned v' ∧ Own w' 5 1 v' (xs ++ encVers l).length (bv (xs ++ encVers l)) ∧ Fresh w w' v' := by
  have hep : 0 < (encVers l).length := by unfold encVers; have := enc_pos l.length; rw [List.length_append]; omega
  have hel := encVers_len hw (by omega)
  obtain ⟨ao, cap, rfl, hnc, hcm⟩ := hs.1.shape
  have HS := hid hs
  clear hs
  go_enter_defers Try.func29, Try.ntmps29
  go_wp2_with fail
  refine (versions_app nilS _ l [] _ w.heap.size (Own.nil _ _ _) (fun k hk => by simp [Value.ownBlock] at hk) HS.out (Nat.le_refl _) hw (by simp; omega)).mono ?_
  rintro e w1 ⟨v1, rfl, hown1, hg1⟩
  rw [List.nil_append] at hown1
  have hv1 := hv.below (none_below hg1.1) hvb
  go_wp2_with fail
  refine (extend_walk v v1 xs (encVers l) _ hv1 (Sl.of_own hown1) hep (by omega)).mono ?_
  rintro e w2 ⟨v2, rfl, hown2, hg2⟩
  go_wp2
  refine leaves_cons (f := 101) (args := #[]) (by simp) (by simp [go_sem]) ?_
  refine (recAVersions_walk _).mono ?_
  rintro e u' w'' ⟨rfl, rfl, rfl⟩
  exact ⟨v2, results_tmp (t := 4) rfl _ _ _, _, rfl, hown2, Step.grown hg1.1 hg2⟩
set_option maxRecDepth 100000 in
theorem recASources_walk (w : World) : CallsD Try.prog 98 #[] .returning w fun e u' w' => e = .returned (.tuple #[]) ∧ u' = .returning ∧ w' = w := by
  refine callsD_of_wpS Try.func98 rfl fun c₀ cs hu => ?_
  apply wpS_region
  simp [wpOpsS, go_sem, recoverD, hu, Try.ntmps98]
  cases c₀
  simp_all [bodyPostS, results, Try.results98]
set_option maxRecDepth 100000 in
theorem appendSources_walk (v s : Value) (l : List Src) (xs : List Nat) (w : World) (hv : Sl w 1 v xs.length (bv xs)) (hvb : Lo v w.heap.size) (hs : DSrcs w.heap.size w s l) (hw : ∀ x ∈ l, x.wf) (hl : xs.length + 20 + 20 * l.length ≤ 1099511627776) :
    Calls Try.prog 27 #[v, s] w fun e w' => ∃ v', e = .returned v' ∧ Own w' 5 1 v' (xs ++ encSrcs l).length (bv (xs ++ encSrcs l)) ∧ Fresh w w' v' := by
  have hep : 0 < (encSrcs l).length := by unfold encSrcs; have := enc_pos l.length; rw [List.length_append]; omega
  have hel := encSrcs_len hw (by omega)
  obtain ⟨ao, cap, rfl, hnc, hcm⟩ := hs.1.shape
  have HS := hid hs
  clear hs
  go_enter_defers Try.func27, Try.ntmps27
  go_wp2_with fail
  refine (sources_app nilS _ l [] _ w.heap.size (Own.nil _ _ _) (fun k hk => by simp [Value.ownBlock] at hk) HS.out (Nat.le_refl _) hw (by simp; omega)).mono ?_
  rintro e w1 ⟨v1, rfl, hown1, hg1⟩
  rw [List.nil_append] at hown1
  have hv1 := hv.below (none_below hg1.1) hvb
  go_wp2_with fail
  refine (extend_walk v v1 xs (encSrcs l) _ hv1 (Sl.of_own hown1) hep (by omega)).mono ?_
  rintro e w2 ⟨v2, rfl, hown2, hg2⟩
  go_wp2
  refine leaves_cons (f := 98) (args := #[]) (by simp) (by simp [go_sem]) ?_
  refine (recASources_walk _).mono ?_
  rintro e u' w'' ⟨rfl, rfl, rfl⟩
  exact ⟨v2, results_tmp (t := 4) rfl _ _ _, _, rfl, hown2, Step.grown hg1.1 hg2⟩
set_option maxRecDepth 100000 in
theorem recARow_walk (w : World) : CallsD Try.prog 112 #[] .returning w fun e u' w' => e = .returned (.tuple #[]) ∧ u' = .returning ∧ w' = w := by
  refine callsD_of_wpS Try.func112 rfl fun c₀ cs hu => ?_
  apply wpS_region
  simp [wpOpsS, go_sem, recoverD, hu, Try.ntmps112]
  cases c₀
  simp_all [bodyPostS, results, Try.results112]
set_option maxRecDepth 100000 in
theorem appendRow_walk (v s : Value) (l : List V) (xs : List Nat) (w : World) (hv : Sl w 1 v xs.length (bv xs)) (hvb : Lo v w.heap.size) (hs : DRow w.heap.size w s l) (hl : xs.length + 20 + 60 * l.length ≤ 1099511627776) :
    Calls Try.prog 38 #[v, s] w fun e w' => ∃ v', e = .returned v' ∧ Own w' 5 1 v' (xs ++ encRow l).length (bv (xs ++ encRow l)) ∧ Fresh w w' v' := by
  have hep : 0 < (encRow l).length := by unfold encRow; have := enc_pos l.length; rw [List.length_append]; omega
  have hel := encRow_len l (by omega)
  obtain ⟨ao, cap, rfl, hnc, hcm⟩ := hs.1.shape
  have HS := hid hs
  clear hs
  go_enter_defers Try.func38, Try.ntmps38
  go_wp2_with fail
  refine (row_app nilS _ l [] _ w.heap.size (Own.nil _ _ _) (fun k hk => by simp [Value.ownBlock] at hk) HS.out (Nat.le_refl _) (by simp; omega)).mono ?_
  rintro e w1 ⟨v1, rfl, hown1, hg1⟩
  rw [List.nil_append] at hown1
  have hv1 := hv.below (none_below hg1.1) hvb
  go_wp2_with fail
  refine (extend_walk v v1 xs (encRow l) _ hv1 (Sl.of_own hown1) hep (by omega)).mono ?_
  rintro e w2 ⟨v2, rfl, hown2, hg2⟩
  go_wp2
  refine leaves_cons (f := 112) (args := #[]) (by simp) (by simp [go_sem]) ?_
  refine (recARow_walk _).mono ?_
  rintro e u' w'' ⟨rfl, rfl, rfl⟩
  exact ⟨v2, results_tmp (t := 4) rfl _ _ _, _, rfl, hown2, Step.grown hg1.1 hg2⟩
set_option maxRecDepth 100000 in
theorem recADigest_walk (w : World) : CallsD Try.prog 100 #[] .returning w fun e u' w' => e = .returned (.tuple #[]) ∧ u' = .returning ∧ w' = w := by
  refine callsD_of_wpS Try.func100 rfl fun c₀ cs hu => ?_
  apply wpS_region
  simp [wpOpsS, go_sem, recoverD, hu, Try.ntmps100]
  cases c₀
  simp_all [bodyPostS, results, Try.results100]
theorem sl_dig {w : World} {B : Nat} {x : List Nat} {t : TypeId} {fr : Nat × Nat} (h : w.heap[B]? = some (.cells (bv x).toArray t fr)) (n : Nat) (hn : x.length = n) (hm : n ≤ 1000) : Sl w 1 (.slice (some ⟨B, 0, none⟩) n n) x.length (bv x) := by
  subst hn
  refine ⟨by rw [bv_length, Nat.mul_one], _, _, rfl, Nat.le_refl _, by unfold maxLen; omega, fun h => (by cases h), fun ad had => ?_⟩
  obtain rfl := Option.some.inj had
  refine ⟨rfl, fun j u hu => ?_⟩
  rw [Nat.zero_add, cell_of_row w B j _ t fr h]
  simpa using hu
set_option maxRecDepth 100000 in
theorem appendDigest_walk (v : Value) (x : List Nat) (xs : List Nat) (w : World) (hv : Sl w 1 v xs.length (bv xs)) (hvb : Lo v w.heap.size) (hx : x.length = 32) (hl : xs.length + 32 ≤ 1099511627776) :
    Calls Try.prog 28 #[v, .agg (bv x).toArray] w fun e w' => ∃ v', e = .returned v' ∧ Own w' 5 1 v' (xs ++ x).length (bv (xs ++ x)) ∧ Fresh w w' v' := by
  generalize hC : bv x = C
  have hC32 : C.length = 32 := by rw [← hC, bv_length, hx]
  go_enter_defers Try.func28, Try.ntmps28
  go_wp2_with fail
  have ga := World.grownBy_alloc w (.cells C.toArray 45) none
  refine (extend_walk v _ xs x _ (hv.below (none_below ga) hvb) (by rw [← hx]; exact sl_dig (by rw [hC]; exact heap_at rfl) _ rfl (by omega)) (by omega) (by omega)).mono ?_
  rintro e w2 ⟨v2, rfl, hown2, hg2⟩
  go_wp2
  refine leaves_cons (f := 100) (args := #[]) (by simp) (by simp [go_sem]) ?_
  refine (recADigest_walk _).mono ?_
  rintro e u' w'' ⟨rfl, rfl, rfl⟩
  exact ⟨v2, results_tmp (t := 4) rfl _ _ _, _, rfl, hown2, Step.grown ga hg2⟩
end

/-! ## RefL -/
section
open Go.RowKit

theorem Sl.below' {w w' : World} {sz : Nat} {v : Value} {n : Nat} {xs : List Value} {B : Nat} (h : Sl w sz v n xs) (hb : Below B w w') (hv : Lo v B) : Sl w' sz v n xs := h.below hb hv
theorem bv_ones {x : List Nat} : (bv x).all Value.oneCell' = true := by simp [bv, Value.oneCell']
theorem sl_blk {w : World} {B n : Nat} {xs : List Value} {t : TypeId} {fr : Nat × Nat} (h : w.heap[B]? = some (.cells xs.toArray t fr)) (hn : n = xs.length ∧ n ≤ 1000) : Sl w 1 (.slice (some ⟨B, 0, none⟩) n n) n xs := by
  obtain ⟨rfl, hm⟩ := hn
  refine ⟨by rw [Nat.mul_one], _, _, rfl, Nat.le_refl _, by unfold maxLen; omega, fun h => (by cases h), fun ad had => ?_⟩
  obtain rfl := Option.some.inj had
  refine ⟨rfl, fun j u hu => ?_⟩
  rw [Nat.zero_add, cell_of_row w B j _ t fr h]
  simpa using hu
theorem Step.then_grown {a b c : World} {v v' : Value} (h : Step a v b v') (g : b.grownBy c Option.none) : Step a v c v' := ⟨grown_trans h.1 (grown_none g), h.2⟩
theorem Own.empty (w : World) : Own (w.alloc (.cells #[] 5)) 5 1 (.slice (some ⟨w.heap.size, 0, none⟩) 0 0) 0 [] :=
  ⟨rfl, .inr ⟨w.heap.size, 0, #[], rfl, Nat.zero_le _, heap_at rfl, Nat.le_refl _, by unfold maxLen; omega, rfl, rfl⟩⟩
set_option maxRecDepth 100000 in
set_option maxHeartbeats 1000000 in
theorem refInts_walk (s : Value) (ns : List Int) (w : World) (hs : Sl w 1 s ns.length (ns.map (Value.int .i64))) (hsb : Lo s w.heap.size) (hr : ∀ n ∈ ns, I64 n) (hl : ns.length ≤ 1000000) :
    Calls Try.prog 109 #[s] w fun e w' => ∃ v, e = .returned v ∧ Own w' 5 1 v (ns.flatMap enc).length (bv (ns.flatMap enc)) ∧ Fresh w w' v := by
  obtain ⟨ao, cap, rfl, hnc, hcm⟩ := hs.shape
  have HS := hid hs
  have HL := hid hsb
  have HR := hid hr
  clear hs hsb hr
  go_enter Try.func109, Try.ntmps109
  go_wp2
  go_loopw [3, 4] (fun b i wr => ∃ k : Nat, k ≤ ns.length ∧ i = .int .i64 k ∧ Own wr 5 1 b ((ns.take k).flatMap enc).length (bv ((ns.take k).flatMap enc)) ∧ Fresh w wr b) (fun _ i _ => ns.length - (intOf i).toNat)
  case atStart => exact ⟨0, Nat.zero_le _, rfl, Own.empty w, ⟨World.grownBy_alloc _ _ _, fun k hk => .inr (by simp [Value.ownBlock] at hk; omega)⟩⟩
  case round =>
    obtain ⟨k, hk, rfl, hown, hst⟩ := hrel
    by_cases hlt : k < ns.length
    · have hbel := none_below hst.1
      have hsk := HS.out.below' hbel HL.out
      obtain ⟨blk, off, rfl, hc⟩ := hsk.at k (by simpa using hlt)
      have h0 : wr.cell? ⟨blk, off + k, none⟩ = some (.int .i64 ns[k]) := by rw [hc k (by simpa using hlt), List.getElem_map]
      have hr := HR.out _ (List.getElem_mem hlt)
      have HT := hid (take_flat enc ns k hlt)
      have hfl := flat_len (ns.take k) (n := 10) (f := enc) fun x hx => enc_len (HR.out x (List.mem_of_mem_take hx)).1 (HR.out x (List.mem_of_mem_take hx)).2
      rw [List.length_take, Nat.min_eq_left (by omega)] at hfl
      have hel := enc_len hr.1 hr.2
      have HF := hid (And.intro hfl hel)
      generalize ns[k] = n at *
      have OK := hid hown
      have SK := hid hst
      clear hown hst hbel hsk hc hfl hel
      go_wp2_with fail
      refine (refInt_walk n wr hr.1 hr.2).mono ?_
      rintro e w1 ⟨v1, rfl, hown1, hst1⟩
      have hown2 := OK.out.kept hst1.1 (by cases u3.ownBlock <;> simp [Value.ownBlock])
      have OW := hid (And.intro hown1 (And.intro hst1 hown2))
      clear hown1 hst1 hown2
      go_wp2_with (at_builtin; go_must (refine wpList_app bytesT rfl _ _ rfl _ _ _ rfl OW.out.2.2 _ _ _ rfl (Sl.of_own OW.out.1) bv_ones (by have := HF.out; omega) ?_; intro v2 w2 hown3 hst3))
      go_roundw
      case rel => exact ⟨k + 1, by omega, by go_num, by rw [HT.out, List.length_append, bv_append]; exact hown3, SK.out.trans ((Step.grown OW.out.2.1.1 hst3))⟩
      case measure => simp [intOf]; omega
    · obtain rfl : k = ns.length := by omega
      go_wp2
      go_ret
      rw [List.take_length] at hown
      exact ⟨_, rfl, hown, hst⟩

theorem grown_cell {w w' : World} {row : Option Nat} {b o : Nat} {v : Value} (g : w.grownBy w' row) (h : w.cell? ⟨b, o, none⟩ = some v) (hne : some b ≠ row) : w'.cell? ⟨b, o, none⟩ = some v := by
  have hb := World.block_lt_of_cell? w _ h
  rw [cell_congr (g.block b hb hne)]
  exact h
theorem wf3 {x : Ver} (h : x.wf) : ∀ n ∈ [x.table, x.seq, x.column], I64 n := by
  simp only [List.mem_cons, List.not_mem_nil, or_false]
  rintro n (rfl | rfl | rfl)
  · exact h.table
  · exact h.seq
  · exact h.column
theorem enterRInts : ∀ (av : Array Value) (w : World), ((Deferred.ofValue (.func (.func 109) #[] #[]) av).run Try.prog w).andThen (fun a w' => (invoke a.target a.args).run Try.prog w') = .ok (.enter 109 av) w := enter_of Try.func109 (by kernel_rfl) rfl
/-- the reference's ints on a row that was just laid, behind a draw -/
theorem rints_call (ns : List Int) (wr : World) (H : Nat) (hH : H = wr.heap.size) (hn : ns.length ≤ 1000) (hr : ∀ n ∈ ns, I64 n) :
    Calls Try.prog 109 #[.slice (some ⟨H, 0, none⟩) ns.length ns.length] (wr.drew.alloc (.cells (ns.map (Value.int .i64)).toArray 3)) fun e w3 => ∃ v, e = .returned v ∧ Hid (Own w3 5 1 v (ns.flatMap enc).length (bv (ns.flatMap enc)) ∧ wr.grownBy w3 none) := by
  subst hH
  have ga := World.grownBy_alloc wr.drew (.cells (ns.map (Value.int .i64)).toArray 3) none
  refine (refInts_walk _ ns _ (sl_blk (B := wr.drew.heap.size) (heap_at rfl) ⟨by simp, hn⟩) (fun b hb => by simp [Value.ownBlock] at hb; subst hb; simp) hr (by omega)).mono ?_
  rintro e w3 ⟨v3, rfl, hown3, hst3⟩
  exact ⟨v3, rfl, hid ⟨hown3, grown_trans (grown_drew wr) (grown_trans ga hst3.1)⟩⟩
theorem ver_room {x : Ver} {k n : Nat} {xs ys : List Nat} (h1 : xs.length ≤ 10) (h2 : ys.length ≤ 30 * k ∧ (encVer x).length ≤ 30) (h3 : k ≤ n) (h4 : n ≤ 1000000) : (xs ++ ys).length + ([x.table, x.seq, x.column].flatMap enc).length ≤ 1099511627776 := by
  obtain ⟨h7, h8⟩ := h2
  unfold encVer at h8
  simp only [List.length_append, List.flatMap_cons, List.flatMap_nil, List.append_nil] at h8 ⊢
  omega
/-- append, at a step of a region that draws -/
theorem step_appS {P : Program} {t e : TypeId} {z : Value} {size bytes : Nat} (E : ET P t e z size bytes) {w : World} {ops : Array Oper} {o : Oper} {a : Act} {K : Act → World → Prop} {Q : Exit → Act → World → Prop} {El : Prop}
    (hgd : o.guard = none) (s x : Operand) (ho : o.op = .call { callee := .builtin .append, args := #[s, x], argTypes := #[t, t] })
    (v : Value) (n : Nat) (xs : List Value) (hs : a.eval s = v) (hown : Own w e size v n xs)
    (sv : Value) (m : Nat) (news : List Value) (hx : a.eval x = sv) (hsl : Sl w size sv m news) (h1 : news.all Value.oneCell' = true) (h63 : n + m ≤ 1099511627776)
    (h : ∀ v' w', Own w' e size v' (n + m) (xs ++ news) → Step w v w' v' → K (a.put o.dst v') w') :
    if Region.wanted o (yielded ops a.tmps) = true then Oper.wp P o a w K Q else El := by
  rw [if_pos (by simp [Region.wanted, hgd])]
  obtain ⟨v', w', hr, h2, h3⟩ := run_app E o.type hown hsl h1 h63
  unfold Oper.wp execOp
  simp only [ho, resolve, invoke, builtin, Sem.run_bind, Sem.run_pure, Result.andThen_ok, List.map_toArray, List.map_cons, List.map_nil, hs, hx, hr]
  exact h v' w' h2 h3
set_option maxRecDepth 100000 in
set_option maxHeartbeats 1000000 in
theorem refVers_walk (s : Value) (l : List Ver) (w : World) (hs : Sl w 3 s l.length (l.flatMap vercells)) (hsb : Lo s w.heap.size) (hw : ∀ x ∈ l, x.wf) (hl : l.length ≤ 1000000) :
    Calls Try.prog 33 #[s] w fun e w' => ∃ v, e = .returned v ∧ Own w' 5 1 v (encVers l).length (bv (encVers l)) ∧ Fresh w w' v := by
  obtain ⟨ao, cap, rfl, hnc, hcm⟩ := hs.shape
  have HS := hid hs
  have HL := hid hsb
  have HW := hid hw
  clear hs hsb hw
  go_enter Try.func33, Try.ntmps33
  go_wp2_with fail
  refine (refInt_walk (l.length : Int) w (by omega) (by omega)).mono ?_
  rintro e w1 ⟨v1, rfl, hown1, hst1⟩
  have hel := enc_len (n := (l.length : Int)) (by omega) (by omega)
  have HE := hid hel
  clear hel
  go_wp2
  go_loopw [3, 4] (fun b i wr => ∃ k : Nat, k ≤ l.length ∧ i = .int .i64 k ∧ Own wr 5 1 b (enc l.length ++ (l.take k).flatMap encVer).length (bv (enc l.length ++ (l.take k).flatMap encVer)) ∧ Fresh w wr b) (fun _ i _ => l.length - (intOf i).toNat)
  case atStart => exact ⟨0, Nat.zero_le _, rfl, by simpa using hown1, hst1⟩
  case round =>
    obtain ⟨k, hk, rfl, hown, hst⟩ := hrel
    by_cases hlt : k < l.length
    · have hbel := none_below hst.1
      obtain ⟨blk, off, rfl, hc⟩ := (HS.out.below' hbel HL.out).elem (fun x _ => rfl) (by decide) k hlt
      have h0 : wr.cell? ⟨blk, off + k * 3, none⟩ = some (.int .i64 l[k].table) := hc 0 _ rfl
      have h1 : wr.cell? ⟨blk, off + k * 3 + 1, none⟩ = some (.int .i64 l[k].column) := hc 1 _ rfl
      have h2 : wr.cell? ⟨blk, off + k * 3 + 2, none⟩ = some (.int .i64 l[k].seq) := hc 2 _ rfl
      have hxw := HW.out _ (List.getElem_mem hlt)
      have HT := hid (take_flat encVer l k hlt)
      have hfl := flat_len (l.take k) (n := 30) (f := encVer) fun x hx => encVer_len (HW.out x (List.mem_of_mem_take hx))
      rw [List.length_take, Nat.min_eq_left (by omega)] at hfl
      have hel := encVer_len hxw
      have HF := hid (And.intro hfl hel)
      generalize l[k] = x at *
      have OK := hid hown
      have SK := hid hst
      clear hown hst hbel hc hfl hel
      go_wp2
      have hnb : some blk ≠ u3.ownBlock := fun e => by
        have h8 := HL.out blk rfl
        have h9 := SK.out.lo blk e.symm
        omega
      go_region_held3 (fun w' => w'.cell? ⟨blk, off + k * 3, none⟩ = some (.int .i64 x.table) ∧ w'.cell? ⟨blk, off + k * 3 + 1, none⟩ = some (.int .i64 x.column) ∧ w'.cell? ⟨blk, off + k * 3 + 2, none⟩ = some (.int .i64 x.seq)) (first | go_keep | exact ⟨c0, c1, c2⟩ | exact ⟨d0, d1, d2⟩ | fail)
        (first
          | (refine step_callS rfl 109 #[.tmp 30] #[93] rfl enterRInts #[.slice (some ⟨wr.heap.size, 0, none⟩) 3 3] (by simp [Act.eval]) (rints_call [x.table, x.seq, x.column] wr wr.heap.size rfl (by simp) (wf3 hxw)) ?_
             rintro e w3 ⟨v3, rfl, M3⟩
             refine ⟨_, rfl, ?_⟩
             have c0 := grown_cell M3.out.2 h0 (by simp)
             have c1 := grown_cell M3.out.2 h1 (by simp)
             have c2 := grown_cell M3.out.2 h2 (by simp))
          | (refine step_appS bytesT rfl (.tmp 14) (.tmp 31) rfl u3 _ _ rfl (OK.out.kept M3.out.2 (by cases u3.ownBlock <;> simp)) v3 _ _ rfl (Sl.of_own M3.out.1) bv_ones (ver_room HE.out HF.out hk hl) ?_
             intro v5 w5 hown5 hst5
             have d0 := grown_cell hst5.1 c0 hnb
             have d1 := grown_cell hst5.1 c1 hnb
             have d2 := grown_cell hst5.1 c2 hnb)
          | fail)
      go_wp2
      go_roundw
      case rel =>
        have e1 : [x.table, x.seq, x.column].flatMap enc = encVer x := by simp [encVer]
        rw [e1] at hown5
        exact ⟨k + 1, by omega, by go_num, by rw [HT.out, ← List.append_assoc, List.length_append (bs := encVer x), bv_append _ (encVer x)]; exact hown5, SK.out.trans (Step.grown M3.out.2 hst5)⟩
      case measure => simp [intOf]; omega
    · obtain rfl : k = l.length := by omega
      go_wp2
      go_ret
      rw [List.take_length] at hown
      exact ⟨_, rfl, hown, hst⟩
end

/-! ## RefL2 -/
section
open Go.RowKit

theorem wf2 {x : Src} (h : x.wf) : ∀ n ∈ [x.table, x.seq], I64 n := by
  simp only [List.mem_cons, List.not_mem_nil, or_false]
  rintro n (rfl | rfl)
  · exact h.table
  · exact h.seq
theorem src_room {x : Src} {k n : Nat} {xs ys : List Nat} (h1 : xs.length ≤ 10) (h2 : ys.length ≤ 20 * k ∧ (encSrc x).length ≤ 20) (h3 : k ≤ n) (h4 : n ≤ 1000000) : (xs ++ ys).length + ([x.table, x.seq].flatMap enc).length ≤ 1099511627776 := by
  obtain ⟨h7, h8⟩ := h2
  unfold encSrc at h8
  simp only [List.length_append, List.flatMap_cons, List.flatMap_nil, List.append_nil] at h8 ⊢
  omega
set_option maxRecDepth 100000 in
set_option maxHeartbeats 1000000 in
theorem refSrcs_walk (s : Value) (l : List Src) (w : World) (hs : Sl w 2 s l.length (l.flatMap srccells)) (hsb : Lo s w.heap.size) (hw : ∀ x ∈ l, x.wf) (hl : l.length ≤ 1000000) :
    Calls Try.prog 34 #[s] w fun e w' => ∃ v, e = .returned v ∧ Own w' 5 1 v (encSrcs l).length (bv (encSrcs l)) ∧ Fresh w w' v := by
  obtain ⟨ao, cap, rfl, hnc, hcm⟩ := hs.shape
  have HS := hid hs
  have HL := hid hsb
  have HW := hid hw
  clear hs hsb hw
  go_enter Try.func34, Try.ntmps34
  go_wp2_with fail
  refine (refInt_walk (l.length : Int) w (by omega) (by omega)).mono ?_
  rintro e w1 ⟨v1, rfl, hown1, hst1⟩
  have hel := enc_len (n := (l.length : Int)) (by omega) (by omega)
  have HE := hid hel
  clear hel
  go_wp2
  go_loopw [3, 4] (fun b i wr => ∃ k : Nat, k ≤ l.length ∧ i = .int .i64 k ∧ Own wr 5 1 b (enc l.length ++ (l.take k).flatMap encSrc).length (bv (enc l.length ++ (l.take k).flatMap encSrc)) ∧ Fresh w wr b) (fun _ i _ => l.length - (intOf i).toNat)
  case atStart => exact ⟨0, Nat.zero_le _, rfl, by simpa using hown1, hst1⟩
  case round =>
    obtain ⟨k, hk, rfl, hown, hst⟩ := hrel
    by_cases hlt : k < l.length
    · have hbel := none_below hst.1
      obtain ⟨blk, off, rfl, hc⟩ := (HS.out.below' hbel HL.out).elem (fun x _ => rfl) (by decide) k hlt
      have h0 : wr.cell? ⟨blk, off + k * 2, none⟩ = some (.int .i64 l[k].table) := hc 0 _ rfl
      have h1 : wr.cell? ⟨blk, off + k * 2 + 1, none⟩ = some (.int .i64 l[k].seq) := hc 1 _ rfl
      have hxw := HW.out _ (List.getElem_mem hlt)
      have HT := hid (take_flat encSrc l k hlt)
      have hfl := flat_len (l.take k) (n := 20) (f := encSrc) fun x hx => encSrc_len (HW.out x (List.mem_of_mem_take hx))
      rw [List.length_take, Nat.min_eq_left (by omega)] at hfl
      have hel := encSrc_len hxw
      have HF := hid (And.intro hfl hel)
      generalize l[k] = x at *
      have OK := hid hown
      have SK := hid hst
      clear hown hst hbel hc hfl hel
      go_wp2
      have hnb : some blk ≠ u3.ownBlock := fun e => by
        have h8 := HL.out blk rfl
        have h9 := SK.out.lo blk e.symm
        omega
      go_region_held3 (fun w' => w'.cell? ⟨blk, off + k * 2, none⟩ = some (.int .i64 x.table) ∧ w'.cell? ⟨blk, off + k * 2 + 1, none⟩ = some (.int .i64 x.seq)) (first | go_keep | exact ⟨c0, c1⟩ | exact ⟨d0, d1⟩ | fail)
        (first
          | (refine step_callS rfl 109 #[.tmp 25] #[93] rfl enterRInts #[.slice (some ⟨wr.heap.size, 0, none⟩) 2 2] (by simp [Act.eval]) (rints_call [x.table, x.seq] wr wr.heap.size rfl (by simp) (wf2 hxw)) ?_
             rintro e w3 ⟨v3, rfl, M3⟩
             refine ⟨_, rfl, ?_⟩
             have c0 := grown_cell M3.out.2 h0 (by simp)
             have c1 := grown_cell M3.out.2 h1 (by simp))
          | (refine step_appS bytesT rfl (.tmp 14) (.tmp 26) rfl u3 _ _ rfl (OK.out.kept M3.out.2 (by cases u3.ownBlock <;> simp)) v3 _ _ rfl (Sl.of_own M3.out.1) bv_ones (src_room HE.out HF.out hk hl) ?_
             intro v5 w5 hown5 hst5
             have d0 := grown_cell hst5.1 c0 hnb
             have d1 := grown_cell hst5.1 c1 hnb)
          | fail)
      go_wp2
      go_roundw
      case rel =>
        have e1 : [x.table, x.seq].flatMap enc = encSrc x := by simp [encSrc]
        rw [e1] at hown5
        exact ⟨k + 1, by omega, by go_num, by rw [HT.out, ← List.append_assoc, List.length_append (bs := encSrc x), bv_append _ (encSrc x)]; exact hown5, SK.out.trans (Step.grown M3.out.2 hst5)⟩
      case measure => simp [intOf]; omega
    · obtain rfl : k = l.length := by omega
      go_wp2
      go_ret
      rw [List.take_length] at hown
      exact ⟨_, rfl, hown, hst⟩
end

/-! ## Same -/
section
open Go.RowKit

deriving instance DecidableEq for Ver
deriving instance DecidableEq for Src
theorem take_eq_of {α : Type} [DecidableEq α] {l m : List α} (h : l.length = m.length) (k : Nat) (hk : k < l.length) (hm : k < m.length) (ht : l.take k = m.take k) : l[k] ≠ m[k] → l ≠ m := fun h2 e => by subst e; exact h2 rfl
theorem take_succ_eq {α : Type} {l m : List α} (k : Nat) (hk : k < l.length) (hm : k < m.length) (ht : l.take k = m.take k) (h : l[k] = m[k]) : l.take (k + 1) = m.take (k + 1) := by
  rw [List.take_add_one, List.take_add_one, List.getElem?_eq_getElem hk, List.getElem?_eq_getElem hm, ht, h]
set_option maxRecDepth 100000 in
set_option maxHeartbeats 1000000 in
theorem sameVers22_walk (a b : Value) (l m : List Ver) (w : World) (ha : Sl w 3 a l.length (l.flatMap vercells)) (hb : Sl w 3 b m.length (m.flatMap vercells)) :
    Calls Try.prog 110 #[a, b] w fun e w' => e = .returned (.bool (decide (l = m))) ∧ w.grownBy w' none := by
  obtain ⟨ao, cap, rfl, hnc, hcm⟩ := ha.shape
  obtain ⟨bo, bcap, rfl, hnc2, hcm2⟩ := hb.shape
  have HA := hid ha
  have HB := hid hb
  clear ha hb
  go_enter Try.func110, Try.ntmps110
  by_cases hlen : l.length = m.length
  · have e0 : ((l.length : Int) != m.length) = false := by simp; omega
    have HLEN := hid hlen
    clear hlen
    go_wp2
    go_loopw [5] (fun i wr => ∃ k : Nat, k ≤ l.length ∧ i = .int .i64 k ∧ l.take k = m.take k ∧ w.grownBy wr none) (fun i _ => l.length - (intOf i).toNat)
    case atStart => exact ⟨0, Nat.zero_le _, rfl, rfl, World.grownBy.refl _ _⟩
    case round =>
      obtain ⟨k, hk, rfl, ht, hg⟩ := hrel
      by_cases hlt : k < l.length
      · have hm : k < m.length := by have := HLEN.out; omega
        obtain ⟨blk, off, rfl, hc⟩ := (HA.out.kept hg (by cases (Value.slice ao l.length cap).ownBlock <;> simp)).elem (fun x _ => rfl) (by decide) k hlt
        obtain ⟨blk2, off2, rfl, hc2⟩ := (HB.out.kept hg (by cases (Value.slice bo m.length bcap).ownBlock <;> simp)).elem (fun x _ => rfl) (by decide) k hm
        have h0 : wr.cell? ⟨blk, off + k * 3, none⟩ = some (.int .i64 l[k].table) := hc 0 _ rfl
        have h1 : wr.cell? ⟨blk, off + k * 3 + 1, none⟩ = some (.int .i64 l[k].column) := hc 1 _ rfl
        have h2 : wr.cell? ⟨blk, off + k * 3 + 2, none⟩ = some (.int .i64 l[k].seq) := hc 2 _ rfl
        have g0 : wr.cell? ⟨blk2, off2 + k * 3, none⟩ = some (.int .i64 m[k].table) := hc2 0 _ rfl
        have g1 : wr.cell? ⟨blk2, off2 + k * 3 + 1, none⟩ = some (.int .i64 m[k].column) := hc2 1 _ rfl
        have g2 : wr.cell? ⟨blk2, off2 + k * 3 + 2, none⟩ = some (.int .i64 m[k].seq) := hc2 2 _ rfl
        have HT := hid (take_succ_eq k hlt hm ht)
        have HN := hid (take_eq_of HLEN.out k hlt hm ht)
        have HG := hid hg
        generalize l[k] = x at *
        generalize m[k] = y at *
        obtain ⟨xt, xc, xs⟩ := x
        obtain ⟨yt, yc, ys⟩ := y
        clear hc hc2 hg
        simp only at *
        by_cases q : (⟨xt, xc, xs⟩ : Ver) = ⟨yt, yc, ys⟩
        · cases q
          go_wp2
          go_region
          go_wp2
          go_roundw
          case rel => exact ⟨k + 1, by omega, by go_num, HT.out (by simp), grown_trans HG.out (grown_drew wr)⟩
          case measure => simp [intOf]; omega
        · have hlm : (decide (l = m)) = false := decide_eq_false (HN.out q)
          have q2 : xt = yt → xc = yc → xs = ys → False := fun h1 h2 h3 => q (by subst h1 h2 h3; rfl)
          have HQ := hid hlm
          clear q hlm
          by_cases q1 : xt = yt
          · by_cases q3 : xc = yc
            · by_cases q4 : xs = ys
              · exact (q2 q1 q3 q4).elim
              · clear q2
                go_wp2
                go_region
                go_wp2
                go_ret
                exact ⟨by rw [HQ.out]; rfl, grown_trans HG.out (grown_drew wr)⟩
            · clear q2
              go_wp2
              go_region
              go_wp2
              go_ret
              exact ⟨by rw [HQ.out]; rfl, grown_trans HG.out (grown_drew wr)⟩
          · clear q2
            go_wp2
            go_region
            go_wp2
            go_ret
            exact ⟨by rw [HQ.out]; rfl, grown_trans HG.out (grown_drew wr)⟩
      · obtain rfl : k = l.length := by omega
        have hlm : (decide (l = m)) = true := decide_eq_true (by rw [List.take_length, List.take_of_length_le (by have := HLEN.out; omega)] at ht; exact ht)
        have HQ := hid hlm
        have HG := hid hg
        clear hlm hg ht
        go_wp2
        go_ret
        exact ⟨by rw [HQ.out]; rfl, HG.out⟩
  · have e0 : ((l.length : Int) != m.length) = true := by simp; omega
    have hlm : (decide (l = m)) = false := decide_eq_false (fun e => hlen (by rw [e]))
    have HQ := hid hlm
    clear hlm
    go_wp2
    go_ret
    exact ⟨by rw [HQ.out]; rfl, World.grownBy.refl _ _⟩
end

/-! ## Same2 -/
section
open Go.RowKit

set_option maxRecDepth 100000 in
set_option maxHeartbeats 1000000 in
theorem sameSrcs22_walk (a b : Value) (l m : List Src) (w : World) (ha : Sl w 2 a l.length (l.flatMap srccells)) (hb : Sl w 2 b m.length (m.flatMap srccells)) :
    Calls Try.prog 111 #[a, b] w fun e w' => e = .returned (.bool (decide (l = m))) ∧ w.grownBy w' none := by
  obtain ⟨ao, cap, rfl, hnc, hcm⟩ := ha.shape
  obtain ⟨bo, bcap, rfl, hnc2, hcm2⟩ := hb.shape
  have HA := hid ha
  have HB := hid hb
  clear ha hb
  go_enter Try.func111, Try.ntmps111
  by_cases hlen : l.length = m.length
  · have e0 : ((l.length : Int) != m.length) = false := by simp; omega
    have HLEN := hid hlen
    clear hlen
    go_wp2
    go_loopw [5] (fun i wr => ∃ k : Nat, k ≤ l.length ∧ i = .int .i64 k ∧ l.take k = m.take k ∧ w.grownBy wr none) (fun i _ => l.length - (intOf i).toNat)
    case atStart => exact ⟨0, Nat.zero_le _, rfl, rfl, World.grownBy.refl _ _⟩
    case round =>
      obtain ⟨k, hk, rfl, ht, hg⟩ := hrel
      by_cases hlt : k < l.length
      · have hm : k < m.length := by have := HLEN.out; omega
        obtain ⟨blk, off, rfl, hc⟩ := (HA.out.kept hg (by cases (Value.slice ao l.length cap).ownBlock <;> simp)).elem (fun x _ => rfl) (by decide) k hlt
        obtain ⟨blk2, off2, rfl, hc2⟩ := (HB.out.kept hg (by cases (Value.slice bo m.length bcap).ownBlock <;> simp)).elem (fun x _ => rfl) (by decide) k hm
        have h0 : wr.cell? ⟨blk, off + k * 2, none⟩ = some (.int .i64 l[k].table) := hc 0 _ rfl
        have h1 : wr.cell? ⟨blk, off + k * 2 + 1, none⟩ = some (.int .i64 l[k].seq) := hc 1 _ rfl
        have g0 : wr.cell? ⟨blk2, off2 + k * 2, none⟩ = some (.int .i64 m[k].table) := hc2 0 _ rfl
        have g1 : wr.cell? ⟨blk2, off2 + k * 2 + 1, none⟩ = some (.int .i64 m[k].seq) := hc2 1 _ rfl
        have HT := hid (take_succ_eq k hlt hm ht)
        have HN := hid (take_eq_of HLEN.out k hlt hm ht)
        have HG := hid hg
        generalize l[k] = x at *
        generalize m[k] = y at *
        obtain ⟨xt, xs⟩ := x
        obtain ⟨yt, ys⟩ := y
        clear hc hc2 hg
        simp only at *
        by_cases q : (⟨xt, xs⟩ : Src) = ⟨yt, ys⟩
        · cases q
          go_wp2
          go_region
          go_wp2
          go_roundw
          case rel => exact ⟨k + 1, by omega, by go_num, HT.out (by simp), grown_trans HG.out (grown_drew wr)⟩
          case measure => simp [intOf]; omega
        · have hlm : (decide (l = m)) = false := decide_eq_false (HN.out q)
          have q2 : xt = yt → xs = ys → False := fun h1 h2 => q (by subst h1 h2; rfl)
          have HQ := hid hlm
          clear q hlm
          by_cases q1 : xt = yt
          · by_cases q4 : xs = ys
            · exact (q2 q1 q4).elim
            · clear q2
              go_wp2
              go_region
              go_wp2
              go_ret
              exact ⟨by rw [HQ.out]; rfl, grown_trans HG.out (grown_drew wr)⟩
          · clear q2
            go_wp2
            go_region
            go_wp2
            go_ret
            exact ⟨by rw [HQ.out]; rfl, grown_trans HG.out (grown_drew wr)⟩
      · obtain rfl : k = l.length := by omega
        have hlm : (decide (l = m)) = true := decide_eq_true (by rw [List.take_length, List.take_of_length_le (by have := HLEN.out; omega)] at ht; exact ht)
        have HQ := hid hlm
        have HG := hid hg
        clear hlm hg ht
        go_wp2
        go_ret
        exact ⟨by rw [HQ.out]; rfl, HG.out⟩
  · have e0 : ((l.length : Int) != m.length) = true := by simp; omega
    have hlm : (decide (l = m)) = false := decide_eq_false (fun e => hlen (by rw [e]))
    have HQ := hid hlm
    clear hlm
    go_wp2
    go_ret
    exact ⟨by rw [HQ.out]; rfl, World.grownBy.refl _ _⟩
set_option maxRecDepth 100000 in
theorem sameVers_walk (a b : Value) (l m : List Ver) (w : World) (ha : Sl w 3 a l.length (l.flatMap vercells)) (hb : Sl w 3 b m.length (m.flatMap vercells)) :
    Calls Try.prog 35 #[a, b] w fun e w' => e = .returned (.bool (decide (l = m))) ∧ w.grownBy w' none := by
  obtain ⟨ao, cap, rfl, hnc, hcm⟩ := ha.shape
  obtain ⟨bo, bcap, rfl, hnc2, hcm2⟩ := hb.shape
  have HA := hid ha
  have HB := hid hb
  clear ha hb
  go_enter Try.func35, Try.ntmps35
  go_wp2_with fail
  refine (sameVers22_walk _ _ l m w HA.out HB.out).mono ?_
  rintro e w1 ⟨rfl, hg⟩
  go_wp2
  go_ret
  exact ⟨rfl, hg⟩
set_option maxRecDepth 100000 in
theorem sameSrcs_walk (a b : Value) (l m : List Src) (w : World) (ha : Sl w 2 a l.length (l.flatMap srccells)) (hb : Sl w 2 b m.length (m.flatMap srccells)) :
    Calls Try.prog 36 #[a, b] w fun e w' => e = .returned (.bool (decide (l = m))) ∧ w.grownBy w' none := by
  obtain ⟨ao, cap, rfl, hnc, hcm⟩ := ha.shape
  obtain ⟨bo, bcap, rfl, hnc2, hcm2⟩ := hb.shape
  have HA := hid ha
  have HB := hid hb
  clear ha hb
  go_enter Try.func36, Try.ntmps36
  go_wp2_with fail
  refine (sameSrcs22_walk _ _ l m w HA.out HB.out).mono ?_
  rintro e w1 ⟨rfl, hg⟩
  go_wp2
  go_ret
  exact ⟨rfl, hg⟩
end

end Go.Proofs.Ytkeiffccllfkpaa
