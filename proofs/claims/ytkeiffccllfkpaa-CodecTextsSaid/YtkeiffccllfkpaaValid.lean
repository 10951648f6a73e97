/- Valid and Clean, of the program and of the reference. -/
import Derived.Test.YtkeiffccllfkpaaLaw0
namespace Go.Proofs.Ytkeiffccllfkpaa
open Go.RowKit

/-- the one result lies whole in a block -/
theorem ret_cell {P : Program} {fn : Func} {p : Tmp} {T : TypeId} (h : fn.results = #[.cell p T]) {a : Act} {w : World} {b : Nat} {cs : List Value} {v : Value} {u : TypeId} {fr : Nat × Nat} {R : Ending → World → Prop}
    (hp : a.tmps.getD p undef = ptr b) (t : TY P T cs v) (hb : w.heap[b]? = some (.cells cs.toArray u fr)) (hd : a.defers = []) (hR : R (.returned v) w) : bodyPost P fn R .ret a w := by
  have e := t.load w b 0 (rangeAt_row hb)
  have hp' : a.tmps[p]?.getD undef = .pointer (some ⟨b, 0, none⟩) := by simpa [ptr] using hp
  exact bodyPost_ret (v := v) (by simp [results, h, hp', asAddr, e]) hd hR
theorem setCells_all {w : World} {b : Nat} {t : TypeId} {c0 : Array Value} (cs : List Value) (hb : w.heap[b]? = some (.cells c0 t (0, 0))) (hc : c0.size = cs.length) :
    w.grownBy (w.setCells b 0 cs) (some b) ∧ (w.setCells b 0 cs).heap[b]? = some (.cells cs.toArray t (0, 0)) :=
  ⟨setCells_grown b cs 0 w, setCells_row b t cs 0 w [] c0.toList rfl (by simpa using hc.symm) (by simpa using hb)⟩
def vval (v : V) : Value := .agg #[.int .i64 v.kind, .int .i64 v.int, .string v.text]
theorem tyV (v : V) : TY Try.prog 67 [.int .i64 v.kind, .int .i64 v.int, .string v.text] (vval v) := TY.agg Try.underlying67 rfl (by kernel_rfl) (by simp [Value.oneCell'])
theorem toList_ne {t : ByteArray} (h : t ≠ ByteArray.empty) : t.toList.isEmpty = false := by
  rw [ByteArray.toList_eq]
  cases he : t.data.toList with
  | nil => exact absurd (ByteArray.ext (by apply Array.ext'; rw [he]; rfl)) h
  | cons a l => rfl

set_option maxRecDepth 100000 in
set_option maxHeartbeats 1000000 in
theorem pvalid_walk (k n : Int) (t : ByteArray) (w : World) :
    Calls Try.prog 193 #[.agg #[.int .i64 k, .int .i64 n, .string t]] w fun e w' => e = .returned (.bool (decide (V.ok ⟨k, n, t⟩))) ∧ w.grownBy w' none := by
  have ga := World.grownBy_alloc w (.cells #[.int .i64 k, .int .i64 n, .string t] 67) none
  have GA := hid ga
  clear ga
  have fin : ∀ (b : Bool), (V.ok ⟨k, n, t⟩ ↔ b = true) → Ending.returned (.bool b) = Ending.returned (.bool (decide (V.ok ⟨k, n, t⟩))) := fun b h => by
    congr 2
    rw [Bool.eq_iff_iff, ← h]
    simp
  have FIN := hid fin
  clear fin
  have te : ByteArray.empty.toList.isEmpty = true := by rw [ByteArray.toList_eq]; rfl
  by_cases h0 : k = 0
  · subst h0
    by_cases hn : n = 0
    · subst hn
      by_cases ht : t = ByteArray.empty
      · subst ht
        go_enter Try.func193, Try.ntmps193
        go_wp2
        go_ret
        exact ⟨FIN.out _ (by simp [V.ok]), GA.out⟩
      · have te2 := toList_ne ht
        have HT := hid ht
        clear ht
        go_enter Try.func193, Try.ntmps193
        go_wp2
        go_ret
        exact ⟨FIN.out _ (by have := HT.out; simp [V.ok]; omega), GA.out⟩
    · have hn2 : (n == 0) = false := by simpa using hn
      have HN := hid hn
      clear hn
      go_enter Try.func193, Try.ntmps193
      go_wp2
      go_ret
      exact ⟨FIN.out _ (by have := HN.out; simp [V.ok, this]), GA.out⟩
  by_cases h1 : k = 1
  · subst h1
    clear h0
    by_cases hn : -4294967296 ≤ n
    · by_cases hn' : n ≤ 4294967296
      · by_cases ht : t = ByteArray.empty
        · subst ht
          go_enter Try.func193, Try.ntmps193
          go_wp2
          go_ret
          exact ⟨FIN.out _ (by simp [V.ok, hn, hn']), GA.out⟩
        · have te2 := toList_ne ht
          have HT := hid ht
          clear ht
          go_enter Try.func193, Try.ntmps193
          go_wp2
          go_ret
          exact ⟨FIN.out _ (by have := HT.out; simp [V.ok, this]), GA.out⟩
      · have d2 : decide (n ≤ 4294967296) = false := decide_eq_false hn'
        have HN := hid hn'
        go_enter Try.func193, Try.ntmps193
        go_wp2
        go_ret
        exact ⟨FIN.out _ (by have := HN.out; simp [V.ok]; omega), GA.out⟩
    · have d2 : decide (-4294967296 ≤ n) = false := decide_eq_false hn
      have HN := hid hn
      clear hn
      go_enter Try.func193, Try.ntmps193
      go_wp2
      go_ret
      exact ⟨FIN.out _ (by have := HN.out; simp [V.ok]; omega), GA.out⟩
  by_cases h2 : k = 2
  · subst h2
    clear h0 h1
    by_cases hn : n = 0
    · subst hn
      by_cases ht : t.size ≤ 32
      · have d2 : decide (t.size ≤ 32) = true := decide_eq_true ht
        go_enter Try.func193, Try.ntmps193
        go_wp2
        go_ret
        exact ⟨FIN.out _ (by simp [V.ok]; omega), GA.out⟩
      · have d2 : decide (t.size ≤ 32) = false := decide_eq_false ht
        have HT := hid ht
        clear ht
        go_enter Try.func193, Try.ntmps193
        go_wp2
        go_ret
        exact ⟨FIN.out _ (by have := HT.out; simp [V.ok]; omega), GA.out⟩
    · have hn2 : (n == 0) = false := by simpa using hn
      have HN := hid hn
      clear hn
      go_enter Try.func193, Try.ntmps193
      go_wp2
      go_ret
      exact ⟨FIN.out _ (by have := HN.out; simp [V.ok, this]), GA.out⟩
  have k0 : (k == 0) = false := by simpa using h0
  have k1 : (k == 1) = false := by simpa using h1
  have k2 : (k == 2) = false := by simpa using h2
  have H := hid (And.intro h0 (And.intro h1 h2))
  clear h0 h1 h2
  go_enter Try.func193, Try.ntmps193
  go_wp2
  go_ret
  exact ⟨FIN.out _ (by have := H.out; simp [V.ok, this]), GA.out⟩

set_option maxRecDepth 100000 in
theorem pclean_walk (v : V) (w : World) : Calls Try.prog 179 #[vval v] w fun e w' => e = .returned (vval v.clean) ∧ w.grownBy w' none := by
  obtain ⟨k, n, t⟩ := v
  unfold vval
  have hc : decide (V.ok ⟨k, n, t⟩) = true ∧ V.clean ⟨k, n, t⟩ = ⟨k, n, t⟩ ∨ decide (V.ok ⟨k, n, t⟩) = false ∧ V.clean ⟨k, n, t⟩ = V.nul := by
    by_cases h : V.ok ⟨k, n, t⟩
    · exact .inl ⟨decide_eq_true h, V.clean_of h⟩
    · exact .inr ⟨decide_eq_false h, if_neg h⟩
  rcases hc with ⟨h1, h2⟩ | ⟨h1, h2⟩
  all_goals
    rw [h2]
    clear h2
    have HV : ∀ w, Calls Try.prog 193 #[.agg #[.int .i64 k, .int .i64 n, .string t]] w _ := fun w => (pvalid_walk k n t w)
    rw [h1] at HV
    have H := hid HV
    clear HV h1
    go_enter Try.func179, Try.ntmps179
    go_wp2_with fail
    refine (H.out _).mono ?_
    rintro e w1 ⟨rfl, hg⟩
    have c1 := row_of hg (heap_past (o := .cells #[.int .i64 0, .int .i64 0, .string ⟨#[]⟩] 67) (w := w.alloc (.cells #[.int .i64 k, .int .i64 n, .string t] 67)) (n := w.heap.size) (by simp) |>.trans (heap_at rfl)) (by simp)
    have c2 := row_of hg (heap_at (o := .cells #[.int .i64 0, .int .i64 0, .string ⟨#[]⟩] 67) (w := w.alloc (.cells #[.int .i64 k, .int .i64 n, .string t] 67)) (n := w.heap.size + 1) (by simp)) (by simp)
    have C1 := hid c1
    have C2 := hid c2
    clear c1 c2
    have x1 : ∀ j, w1.cell? ⟨w.heap.size, j, none⟩ = (#[Value.int .i64 k, .int .i64 n, .string t] : Array Value)[j]? := fun j => cell_of_row w1 _ j _ _ _ C1.out
    have x2 : ∀ j, w1.cell? ⟨w.heap.size + 1, j, none⟩ = (#[Value.int .i64 0, .int .i64 0, .string ⟨#[]⟩] : Array Value)[j]? := fun j => cell_of_row w1 _ j _ _ _ C2.out
    have y2 : ∀ j, w1.frozen? ⟨w.heap.size + 1, j, none⟩ = false := fun j => frozen_of_row w1 _ j _ _ C2.out
    go_wp2
  · obtain ⟨s1, s2⟩ := setCells_all [.int .i64 k, .int .i64 n, .string t] C2.out rfl
    exact ret_cell rfl rfl (tyV ⟨k, n, t⟩) s2 rfl ⟨rfl, grown_newR (grown_trans (grown_trans (World.grownBy_alloc _ _ _) (World.grownBy_alloc _ _ _)) hg) s1 (by omega)⟩
  · obtain ⟨s1, s2⟩ := setCells_all [.int .i64 0, .int .i64 0, .string ⟨#[]⟩] C2.out rfl
    exact ret_cell rfl rfl (tyV V.nul) s2 rfl ⟨rfl, grown_newR (grown_trans (grown_trans (World.grownBy_alloc _ _ _) (World.grownBy_alloc _ _ _)) hg) s1 (by omega)⟩

set_option maxRecDepth 100000 in
set_option maxHeartbeats 1000000 in
theorem rvalid_walk (k n : Int) (t : ByteArray) (w : World) :
    Calls Try.prog 120 #[.agg #[.int .i64 k, .int .i64 n, .string t]] w fun e w' => e = .returned (.bool (decide (V.ok ⟨k, n, t⟩))) ∧ w.grownBy w' none := by
  have ga := World.grownBy_alloc w (.cells #[.int .i64 k, .int .i64 n, .string t] 67) none
  have GA := hid ga
  clear ga
  have fin : ∀ (b : Bool), (V.ok ⟨k, n, t⟩ ↔ b = true) → Ending.returned (.bool b) = Ending.returned (.bool (decide (V.ok ⟨k, n, t⟩))) := fun b h => by
    congr 2
    rw [Bool.eq_iff_iff, ← h]
    simp
  have FIN := hid fin
  clear fin
  have te : ByteArray.empty.toList.isEmpty = true := by rw [ByteArray.toList_eq]; rfl
  by_cases h0 : k = 0
  · subst h0
    by_cases hn : n = 0
    · subst hn
      by_cases ht : t = ByteArray.empty
      · subst ht
        go_enter Try.func120, Try.ntmps120
        go_wp2
        go_ret
        exact ⟨FIN.out _ (by simp [V.ok]), GA.out⟩
      · have te2 := toList_ne ht
        have HT := hid ht
        clear ht
        go_enter Try.func120, Try.ntmps120
        go_wp2
        go_ret
        exact ⟨FIN.out _ (by have := HT.out; simp [V.ok]; omega), GA.out⟩
    · have hn2 : (n == 0) = false := by simpa using hn
      have HN := hid hn
      clear hn
      go_enter Try.func120, Try.ntmps120
      go_wp2
      go_ret
      exact ⟨FIN.out _ (by have := HN.out; simp [V.ok, this]), GA.out⟩
  by_cases h1 : k = 1
  · subst h1
    clear h0
    by_cases hn : -4294967296 ≤ n
    · by_cases hn' : n ≤ 4294967296
      · by_cases ht : t = ByteArray.empty
        · subst ht
          go_enter Try.func120, Try.ntmps120
          go_wp2
          go_ret
          exact ⟨FIN.out _ (by simp [V.ok, hn, hn']), GA.out⟩
        · have te2 := toList_ne ht
          have HT := hid ht
          clear ht
          go_enter Try.func120, Try.ntmps120
          go_wp2
          go_ret
          exact ⟨FIN.out _ (by have := HT.out; simp [V.ok, this]), GA.out⟩
      · have d2 : decide (n ≤ 4294967296) = false := decide_eq_false hn'
        have HN := hid hn'
        go_enter Try.func120, Try.ntmps120
        go_wp2
        go_ret
        exact ⟨FIN.out _ (by have := HN.out; simp [V.ok]; omega), GA.out⟩
    · have d2 : decide (-4294967296 ≤ n) = false := decide_eq_false hn
      have HN := hid hn
      clear hn
      go_enter Try.func120, Try.ntmps120
      go_wp2
      go_ret
      exact ⟨FIN.out _ (by have := HN.out; simp [V.ok]; omega), GA.out⟩
  by_cases h2 : k = 2
  · subst h2
    clear h0 h1
    by_cases hn : n = 0
    · subst hn
      by_cases ht : t.size ≤ 32
      · have d2 : decide (t.size ≤ 32) = true := decide_eq_true ht
        go_enter Try.func120, Try.ntmps120
        go_wp2
        go_ret
        exact ⟨FIN.out _ (by simp [V.ok]; omega), GA.out⟩
      · have d2 : decide (t.size ≤ 32) = false := decide_eq_false ht
        have HT := hid ht
        clear ht
        go_enter Try.func120, Try.ntmps120
        go_wp2
        go_ret
        exact ⟨FIN.out _ (by have := HT.out; simp [V.ok]; omega), GA.out⟩
    · have hn2 : (n == 0) = false := by simpa using hn
      have HN := hid hn
      clear hn
      go_enter Try.func120, Try.ntmps120
      go_wp2
      go_ret
      exact ⟨FIN.out _ (by have := HN.out; simp [V.ok, this]), GA.out⟩
  have k0 : (k == 0) = false := by simpa using h0
  have k1 : (k == 1) = false := by simpa using h1
  have k2 : (k == 2) = false := by simpa using h2
  have H := hid (And.intro h0 (And.intro h1 h2))
  clear h0 h1 h2
  go_enter Try.func120, Try.ntmps120
  go_wp2
  go_ret
  exact ⟨FIN.out _ (by have := H.out; simp [V.ok, this]), GA.out⟩

set_option maxRecDepth 100000 in
theorem rclean_walk (v : V) (w : World) : Calls Try.prog 43 #[vval v] w fun e w' => e = .returned (vval v.clean) ∧ w.grownBy w' none := by
  obtain ⟨k, n, t⟩ := v
  unfold vval
  have hc : decide (V.ok ⟨k, n, t⟩) = true ∧ V.clean ⟨k, n, t⟩ = ⟨k, n, t⟩ ∨ decide (V.ok ⟨k, n, t⟩) = false ∧ V.clean ⟨k, n, t⟩ = V.nul := by
    by_cases h : V.ok ⟨k, n, t⟩
    · exact .inl ⟨decide_eq_true h, V.clean_of h⟩
    · exact .inr ⟨decide_eq_false h, if_neg h⟩
  rcases hc with ⟨h1, h2⟩ | ⟨h1, h2⟩
  all_goals
    rw [h2]
    clear h2
    have HV : ∀ w, Calls Try.prog 120 #[.agg #[.int .i64 k, .int .i64 n, .string t]] w _ := fun w => (rvalid_walk k n t w)
    rw [h1] at HV
    have H := hid HV
    clear HV h1
    go_enter Try.func43, Try.ntmps43
    go_wp2_with fail
    refine (H.out _).mono ?_
    rintro e w1 ⟨rfl, hg⟩
    have c1 := row_of hg (heap_past (o := .cells #[.int .i64 0, .int .i64 0, .string ⟨#[]⟩] 67) (w := w.alloc (.cells #[.int .i64 k, .int .i64 n, .string t] 67)) (n := w.heap.size) (by simp) |>.trans (heap_at rfl)) (by simp)
    have c2 := row_of hg (heap_at (o := .cells #[.int .i64 0, .int .i64 0, .string ⟨#[]⟩] 67) (w := w.alloc (.cells #[.int .i64 k, .int .i64 n, .string t] 67)) (n := w.heap.size + 1) (by simp)) (by simp)
    have C1 := hid c1
    have C2 := hid c2
    clear c1 c2
    have x1 : ∀ j, w1.cell? ⟨w.heap.size, j, none⟩ = (#[Value.int .i64 k, .int .i64 n, .string t] : Array Value)[j]? := fun j => cell_of_row w1 _ j _ _ _ C1.out
    have x2 : ∀ j, w1.cell? ⟨w.heap.size + 1, j, none⟩ = (#[Value.int .i64 0, .int .i64 0, .string ⟨#[]⟩] : Array Value)[j]? := fun j => cell_of_row w1 _ j _ _ _ C2.out
    have y2 : ∀ j, w1.frozen? ⟨w.heap.size + 1, j, none⟩ = false := fun j => frozen_of_row w1 _ j _ _ C2.out
    go_wp2
  · obtain ⟨s1, s2⟩ := setCells_all [.int .i64 k, .int .i64 n, .string t] C2.out rfl
    exact ret_cell rfl rfl (tyV ⟨k, n, t⟩) s2 rfl ⟨rfl, grown_newR (grown_trans (grown_trans (World.grownBy_alloc _ _ _) (World.grownBy_alloc _ _ _)) hg) s1 (by omega)⟩
  · obtain ⟨s1, s2⟩ := setCells_all [.int .i64 0, .int .i64 0, .string ⟨#[]⟩] C2.out rfl
    exact ret_cell rfl rfl (tyV V.nul) s2 rfl ⟨rfl, grown_newR (grown_trans (grown_trans (World.grownBy_alloc _ _ _) (World.grownBy_alloc _ _ _)) hg) s1 (by omega)⟩

end Go.Proofs.Ytkeiffccllfkpaa
