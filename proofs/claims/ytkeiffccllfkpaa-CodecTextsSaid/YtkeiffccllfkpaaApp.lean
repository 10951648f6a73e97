/- The program's appenders that draw no order: text, cell, row, versions, sources. -/
import Derived.Test.YtkeiffccllfkpaaValid
import Derived.Test.YtkeiffccllfkpaaLin
namespace Go.Proofs.Ytkeiffccllfkpaa
open Go.RowKit

/-- what an appender leaves: the bytes ys in v's row or a new one, nothing else written -/
def AppPost (w : World) (v : Value) (ys : List Nat) (e : Ending) (w' : World) : Prop := ∃ v', e = .returned v' ∧ Own w' 5 1 v' ys.length (bv ys) ∧ Step w v w' v'
theorem intsL_walk (v : Value) (ns : List Int) (xs : List Nat) (w : World) (T : TypeId) (cs : Array Value) (m : Nat) (hown : Own w 5 1 v xs.length (bv xs)) (hm : m = ns.length) (hcs : cs = (ns.map (Value.int .i64)).toArray)
    (hr : ∀ n ∈ ns, I64 n) (hlen : xs.length + 10 * ns.length ≤ 1099511627776) :
    Calls Try.prog 89 #[v, .slice (some ⟨w.heap.size, 0, none⟩) m m] (w.alloc (.cells cs T)) (AppPost w v (xs ++ ns.flatMap enc)) := by
  subst hm hcs
  have hs : Sl (w.alloc (.cells (ns.map (Value.int .i64)).toArray T)) 1 (.slice (some ⟨w.heap.size, 0, none⟩) ns.length ns.length) ns.length (ns.map (Value.int .i64)) :=
    ⟨by simp, _, _, rfl, Nat.le_refl _, by unfold maxLen; omega, fun h => (by cases h), fun a ha => by
      obtain rfl := Option.some.inj ha
      refine ⟨rfl, fun j u hu => ?_⟩
      rw [Nat.zero_add, World.cell?_alloc_at _ _ _ _ rfl]
      simpa using hu⟩
  refine (ints_walk v _ xs ns _ (hown.alloc _) hs (.inr ?_) hr hlen).mono ?_
  · intro e
    have := Own.lt hown _ e.symm
    simp at this
  · rintro e w' ⟨v', rfl, h1, h2⟩
    exact ⟨v', rfl, h1, h2.alloc⟩
theorem AppPost.elim {w w' : World} {v : Value} {ys : List Nat} {e : Ending} (h : AppPost w v ys e w') : ∃ v', e = .returned v' ∧ Own w' 5 1 v' ys.length (bv ys) ∧ Step w v w' v' := h
theorem encT_len (s : ByteArray) (h : s.size ≤ 1099511627776) : (encT s).length ≤ 10 + s.size := by
  unfold encT
  have := enc_len (n := s.size) (by omega) (by omega)
  rw [List.length_append, by_len]
  omega
theorem strCells_by (s : ByteArray) : Lib.strCells s = bv (by_ s) := by
  have := strCells_bs (by_ s) (by_lt s)
  rwa [bs_by] at this

set_option maxRecDepth 100000 in
theorem text_app (v : Value) (s : ByteArray) (xs : List Nat) (w : World) (hown : Own w 5 1 v xs.length (bv xs)) (hl : xs.length + 10 + s.size ≤ 1099511627776) :
    Calls Try.prog 94 #[v, .string s] w (AppPost w v (xs ++ encT s)) := by
  go_enter Try.func94, Try.ntmps94
  go_wp2_with fail
  refine (intsL_walk v [(s.size : Int)] xs w _ _ 1 hown rfl rfl (by simp; omega) (by simp; omega)).mono ?_
  rintro e w1 ⟨v1, rfl, hown1, hst1⟩
  simp only [List.flatMap_cons, List.flatMap_nil, List.append_nil] at hown1
  have hel := enc_len (n := s.size) (by omega) (by omega)
  have hl1 : (xs ++ enc s.size).length + s.size ≤ 1099511627776 := by rw [List.length_append]; omega
  go_wp2_with (at_builtin; go_must (refine wpList_appstr bytesT Try.underlying9 rfl _ _ rfl _ _ _ rfl hown1 s rfl hl1 ?_; intro v2 w2 hown2 hst2))
  go_ret
  refine ⟨v2, rfl, ?_, hst1.trans hst2⟩
  unfold encT
  rw [strCells_by, ← bv_append, List.append_assoc] at hown2
  have e : (xs ++ enc s.size).length + s.size = (xs ++ (enc s.size ++ by_ s)).length := by simp [by_len]; omega
  rw [e] at hown2
  exact hown2

theorem Own.row {T E : TypeId} {w w' : World} {v v' : Value} {n k sz : Nat} {xs : List Value} {c : Array Value} {fr : Nat × Nat} (h : Own w E sz v n xs) (hs : Step w v w' v') (hne : E ≠ T) (hk : w.heap[k]? = some (.cells c T fr)) : w'.heap[k]? = some (.cells c T fr) :=
  row_of hs.1 hk (Own.ne h hk hne).symm

set_option maxRecDepth 100000 in
set_option maxHeartbeats 1000000 in
theorem cell_app (v : Value) (x : V) (xs : List Nat) (w : World) (hown : Own w 5 1 v xs.length (bv xs)) (hl : xs.length + 60 ≤ 1099511627776) :
    Calls Try.prog 117 #[v, vval x] w (AppPost w v (xs ++ encV x)) := by
  have hok := x.clean_ok
  have HC := hid (pclean_walk x)
  unfold encV
  unfold vval at *
  generalize hy : x.clean = y at *
  clear hy
  obtain ⟨xk, xn, xt⟩ := x
  obtain ⟨k, n, t⟩ := y
  simp only at HC ⊢
  rcases hok with ⟨h1, h2, h3⟩ | ⟨h1, h2, h3, h4⟩ | ⟨h1, h2, h3⟩
  · simp only at h1 h2 h3
    subst h1 h2 h3
    go_enter Try.func117, Try.ntmps117
    go_wp2_with fail
    refine (HC.out _).mono ?_
    rintro e w1 ⟨rfl, hg⟩
    have hb := row_of hg (heap_at rfl) (by simp)
    have g1 : w.grownBy w1 none := grown_trans (World.grownBy_alloc _ _ _) hg
    obtain ⟨s1, s2⟩ := setCells_all [.int .i64 0, .int .i64 0, .string ByteArray.empty] hb rfl
    have y0 : ∀ j, w1.cell? ⟨w.heap.size, j, none⟩ = (#[Value.int .i64 xk, .int .i64 xn, .string xt] : Array Value)[j]? := fun j => cell_of_row w1 _ j _ _ _ hb
    have y1 : ∀ j, w1.frozen? ⟨w.heap.size, j, none⟩ = false := fun j => frozen_of_row w1 _ j _ _ hb
    have gW : w.grownBy (w1.setCells w.heap.size 0 [.int .i64 0, .int .i64 0, .string ByteArray.empty]) none := grown_newR g1 s1 (Nat.le_refl _)
    have ownW := hown.kept gW (by cases v.ownBlock <;> simp)
    have lW : (w1.setCells w.heap.size 0 [.int .i64 0, .int .i64 0, .string ByteArray.empty]).heap.size = w1.heap.size := by simp [World.setCells]
    have OW := hid ownW
    have G := hid gW
    have BW := hid s2
    have LW := hid lW
    clear ownW gW s2 s1 hb lW g1 hg
    go_wp2_with fail
    generalize hW : ((w1.setCell ⟨w.heap.size, 0, none⟩ (.int .i64 0)).setCell ⟨w.heap.size, 1, none⟩ (.int .i64 0)).setCell ⟨w.heap.size, 2, none⟩ (.string ByteArray.empty) = W
    have hW' : w1.setCells w.heap.size 0 [.int .i64 0, .int .i64 0, .string ByteArray.empty] = W := hW
    rw [hW'] at OW G BW LW
    clear hW hW'
    rw [← LW.out]
    refine (intsL_walk v [0] xs W _ _ 1 OW.out rfl rfl (fun m hm => by simp at hm; subst hm; exact ⟨by omega, by omega⟩) (by simp; omega)).mono ?_
    rintro e w2 ⟨v1, rfl, hown2, hst2⟩
    simp only [List.flatMap_cons, List.flatMap_nil, List.append_nil] at hown2
    have hel := enc_len (n := 0) (by omega) (by omega)
    have L2 : Hid ((xs ++ enc 0).length ≤ xs.length + 10) := by rw [List.length_append]; exact hid (by omega)
    have b2 := Own.row OW.out hst2 (by decide) BW.out
    have z0 : ∀ j, w2.cell? ⟨w.heap.size, j, none⟩ = (#[Value.int .i64 0, .int .i64 0, .string ByteArray.empty] : Array Value)[j]? := fun j => cell_of_row w2 _ j _ _ _ b2
    have O2 := hid hown2
    have S2 := hid hst2
    clear hown2 hst2 b2 y0 y1
    go_wp2
    go_ret
    exact ⟨v1, rfl, by simpa [encC] using O2.out, Step.grown G.out S2.out⟩
  · simp only at h1 h2 h3 h4
    subst h1 h4
    go_enter Try.func117, Try.ntmps117
    go_wp2_with fail
    refine (HC.out _).mono ?_
    rintro e w1 ⟨rfl, hg⟩
    have hb := row_of hg (heap_at rfl) (by simp)
    have g1 : w.grownBy w1 none := grown_trans (World.grownBy_alloc _ _ _) hg
    obtain ⟨s1, s2⟩ := setCells_all [.int .i64 1, .int .i64 n, .string ByteArray.empty] hb rfl
    have y0 : ∀ j, w1.cell? ⟨w.heap.size, j, none⟩ = (#[Value.int .i64 xk, .int .i64 xn, .string xt] : Array Value)[j]? := fun j => cell_of_row w1 _ j _ _ _ hb
    have y1 : ∀ j, w1.frozen? ⟨w.heap.size, j, none⟩ = false := fun j => frozen_of_row w1 _ j _ _ hb
    have gW : w.grownBy (w1.setCells w.heap.size 0 [.int .i64 1, .int .i64 n, .string ByteArray.empty]) none := grown_newR g1 s1 (Nat.le_refl _)
    have ownW := hown.kept gW (by cases v.ownBlock <;> simp)
    have lW : (w1.setCells w.heap.size 0 [.int .i64 1, .int .i64 n, .string ByteArray.empty]).heap.size = w1.heap.size := by simp [World.setCells]
    have OW := hid ownW
    have G := hid gW
    have BW := hid s2
    have LW := hid lW
    clear ownW gW s2 s1 hb lW g1 hg
    go_wp2_with fail
    generalize hW : ((w1.setCell ⟨w.heap.size, 0, none⟩ (.int .i64 1)).setCell ⟨w.heap.size, 1, none⟩ (.int .i64 n)).setCell ⟨w.heap.size, 2, none⟩ (.string ByteArray.empty) = W
    have hW' : w1.setCells w.heap.size 0 [.int .i64 1, .int .i64 n, .string ByteArray.empty] = W := hW
    rw [hW'] at OW G BW LW
    clear hW hW'
    rw [← LW.out]
    refine (intsL_walk v [1] xs W _ _ 1 OW.out rfl rfl (fun m hm => by simp at hm; subst hm; exact ⟨by omega, by omega⟩) (by simp; omega)).mono ?_
    rintro e w2 ⟨v1, rfl, hown2, hst2⟩
    simp only [List.flatMap_cons, List.flatMap_nil, List.append_nil] at hown2
    have hel := enc_len (n := 1) (by omega) (by omega)
    have L2 : Hid ((xs ++ enc 1).length ≤ xs.length + 10) := by rw [List.length_append]; exact hid (by omega)
    have b2 := Own.row OW.out hst2 (by decide) BW.out
    have z0 : ∀ j, w2.cell? ⟨w.heap.size, j, none⟩ = (#[Value.int .i64 1, .int .i64 n, .string ByteArray.empty] : Array Value)[j]? := fun j => cell_of_row w2 _ j _ _ _ b2
    have O2 := hid hown2
    have S2 := hid hst2
    clear hown2 hst2 b2 y0 y1
    go_wp2_with fail
    refine (intsL_walk v1 [n] _ w2 _ _ 1 O2.out rfl rfl (by simp; omega) (by have := L2.out; simp at *; omega)).mono ?_
    rintro e w3 ⟨v2, rfl, hown3, hst3⟩
    go_wp2
    go_ret
    exact ⟨v2, rfl, by simpa [encC] using hown3, Step.grown G.out (S2.out.trans hst3)⟩
  · simp only at h1 h2 h3
    subst h1 h2
    go_enter Try.func117, Try.ntmps117
    go_wp2_with fail
    refine (HC.out _).mono ?_
    rintro e w1 ⟨rfl, hg⟩
    have hb := row_of hg (heap_at rfl) (by simp)
    have g1 : w.grownBy w1 none := grown_trans (World.grownBy_alloc _ _ _) hg
    obtain ⟨s1, s2⟩ := setCells_all [.int .i64 2, .int .i64 0, .string t] hb rfl
    have y0 : ∀ j, w1.cell? ⟨w.heap.size, j, none⟩ = (#[Value.int .i64 xk, .int .i64 xn, .string xt] : Array Value)[j]? := fun j => cell_of_row w1 _ j _ _ _ hb
    have y1 : ∀ j, w1.frozen? ⟨w.heap.size, j, none⟩ = false := fun j => frozen_of_row w1 _ j _ _ hb
    have gW : w.grownBy (w1.setCells w.heap.size 0 [.int .i64 2, .int .i64 0, .string t]) none := grown_newR g1 s1 (Nat.le_refl _)
    have ownW := hown.kept gW (by cases v.ownBlock <;> simp)
    have lW : (w1.setCells w.heap.size 0 [.int .i64 2, .int .i64 0, .string t]).heap.size = w1.heap.size := by simp [World.setCells]
    have OW := hid ownW
    have G := hid gW
    have BW := hid s2
    have LW := hid lW
    clear ownW gW s2 s1 hb lW g1 hg
    go_wp2_with fail
    generalize hW : ((w1.setCell ⟨w.heap.size, 0, none⟩ (.int .i64 2)).setCell ⟨w.heap.size, 1, none⟩ (.int .i64 0)).setCell ⟨w.heap.size, 2, none⟩ (.string t) = W
    have hW' : w1.setCells w.heap.size 0 [.int .i64 2, .int .i64 0, .string t] = W := hW
    rw [hW'] at OW G BW LW
    clear hW hW'
    rw [← LW.out]
    refine (intsL_walk v [2] xs W _ _ 1 OW.out rfl rfl (fun m hm => by simp at hm; subst hm; exact ⟨by omega, by omega⟩) (by simp; omega)).mono ?_
    rintro e w2 ⟨v1, rfl, hown2, hst2⟩
    simp only [List.flatMap_cons, List.flatMap_nil, List.append_nil] at hown2
    have hel := enc_len (n := 2) (by omega) (by omega)
    have L2 : Hid ((xs ++ enc 2).length ≤ xs.length + 10) := by rw [List.length_append]; exact hid (by omega)
    have b2 := Own.row OW.out hst2 (by decide) BW.out
    have z0 : ∀ j, w2.cell? ⟨w.heap.size, j, none⟩ = (#[Value.int .i64 2, .int .i64 0, .string t] : Array Value)[j]? := fun j => cell_of_row w2 _ j _ _ _ b2
    have O2 := hid hown2
    have S2 := hid hst2
    clear hown2 hst2 b2 y0 y1
    go_wp2_with fail
    refine (text_app v1 t _ w2 O2.out (by have := L2.out; simp at *; omega)).mono ?_
    rintro e w3 ⟨v2, rfl, hown3, hst3⟩
    go_wp2
    go_ret
    exact ⟨v2, rfl, by simpa [encC] using hown3, Step.grown G.out (S2.out.trans hst3)⟩
end Go.Proofs.Ytkeiffccllfkpaa
