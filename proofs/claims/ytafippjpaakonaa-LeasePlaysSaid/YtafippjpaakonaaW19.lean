/- Leases: the reference's put. -/
import Derived.Test.YtafippjpaakonaaW18
namespace Go.Proofs.Ytafippjpaakonaa
open Go.RowKit
set_option linter.unusedSimpArgs false
set_option linter.unusedVariables false

theorem grown_cell {w w' : World} {row : Option Nat} {b o : Nat} {v : Value} (g : w.grownBy w' row) (h : w.cell? ⟨b, o, none⟩ = some v) (hne : some b ≠ row) : w'.cell? ⟨b, o, none⟩ = some v := g.cell h hne
theorem enterWithout : ∀ (av : Array Value) (w : World), ((Deferred.ofValue (.func (.func 51) #[] #[]) av).run Try.prog w).andThen (fun a w' => (invoke a.target a.args).run Try.prog w') = .ok (.enter 51 av) w := enter_of Try.func51 (by kernel_rfl) rfl
/-- what without returns, as a step of a region uses it -/
theorem without_call {l : List Ls} {n : Int} {s : Value} {w0 w : World} (hR : Rd w0 s l) (hg : w0.grownBy w none) (hn : l.length ≤ 1000000) :
    Calls Try.prog 51 #[s, .int .i64 n] w fun e w' => ∃ ao cap k, e = .returned (.slice ao k cap) ∧ k ≤ 1000000 ∧ Hid (k = (l.filter (other n)).length ∧ Own w' 38 4 (.slice ao k cap) k ((l.filter (other n)).flatMap lcells) ∧ Fresh w w' (.slice ao k cap) ∧ w0.grownBy w' none) := by
  refine (without_walk l n s w (Sl.kn hR hg) hn).mono ?_
  rintro e w' ⟨v, rfl, ho, hf⟩
  obtain ⟨ao, cap, rfl, _, _⟩ := (Sl.of_own ho).shape
  exact ⟨ao, cap, _, rfl, Nat.le_trans (List.length_filter_le _ _) hn, rfl, ho, hf, grown_trans hg (Step.none hf)⟩
/-- the blocks of put -/
structure PF (w wr : World) (next : Int) (sv : Value) (x : Ls) (A : List Value) : Prop where
  g : w.grownBy wr none
  b0 : wr.heap[w.heap.size]? = some (.cells #[.int .i64 next, sv] 24 (0, 0))
  b1 : wr.heap[w.heap.size + 1]? = some (.cells (lcells x).toArray 38 (0, 0))
  b2 : wr.heap[w.heap.size + 1 + 1]? = some (.cells A.toArray 24 (0, 0))
section
variable {w wr w' : World} {next : Int} {sv : Value} {x : Ls} {A : List Value}
theorem PF.start (w : World) (next : Int) (sv : Value) (x : Ls) (A : List Value) : PF w (((w.alloc (.cells #[.int .i64 next, sv] 24)).alloc (.cells (lcells x).toArray 38)).alloc (.cells A.toArray 24)) next sv x A :=
  ⟨grown_trans (grown_trans (World.grownBy_alloc _ _ _) (World.grownBy_alloc _ _ _)) (World.grownBy_alloc _ _ _),
   by rw [heap_past (by simp <;> omega), heap_past (by simp <;> omega), heap_at rfl],
   by rw [heap_past (by simp <;> omega), heap_at (by simp <;> omega)],
   by rw [heap_at (by simp <;> omega)]⟩
theorem PF.call (h : PF w wr next sv x A) (g : wr.grownBy w' none) : PF w w' next sv x A :=
  ⟨grown_trans h.g g, row_of g h.b0 (by simp), row_of g h.b1 (by simp), row_of g h.b2 (by simp)⟩
theorem PF.far {k : Nat} (h : PF w wr next sv x A) (g : wr.grownBy w' (some k)) (hk : w.heap.size + 1 + 1 < k) : PF w w' next sv x A :=
  ⟨grown_newR h.g g (by omega), row_of g h.b0 (by simp <;> omega), row_of g h.b1 (by simp <;> omega), row_of g h.b2 (by simp <;> omega)⟩
theorem PF.step {q : Option Nat} (h : PF w wr next sv x A) (g : wr.grownBy w' q) (hk : ∀ k, q = some k → w.heap.size + 1 + 1 < k) : PF w w' next sv x A := by
  cases q with
  | none => exact h.call g
  | some k => exact h.far g (hk k rfl)
end
theorem Sl.new {w : World} {c : List Value} {T : TypeId} {sz H : Nat} (hH : H = w.heap.size) (hl : c.length = sz) : Sl (w.alloc (.cells c.toArray T)) sz (.slice (some ⟨H, 0, none⟩) 1 1) 1 c :=
  ⟨by rw [hl, Nat.one_mul], some ⟨H, 0, none⟩, 1, rfl, Nat.le_refl _, by unfold maxLen; omega, fun h => (by cases h), fun ad had => by
    subst hH
    obtain rfl := Option.some.inj had
    refine ⟨rfl, fun j u hu => ?_⟩
    rw [Nat.zero_add, World.cell?_alloc_at _ _ _ _ rfl]
    simpa using hu⟩
/-- a list with a lease laid at a place -/
def bub (D : List Ls) (x : Ls) (k : Nat) : List Ls := D.take k ++ x :: D.drop k
theorem bub_len {D : List Ls} {x : Ls} {k : Nat} : (bub D x k).length = D.length + 1 := by
  unfold bub
  simp only [List.length_append, List.length_take, List.length_cons, List.length_drop]
  omega
theorem bub_end {D : List Ls} {x : Ls} : bub D x D.length = D ++ [x] := by simp [bub]
theorem bub_at {D : List Ls} {x : Ls} {k : Nat} (hk : k ≤ D.length) : (bub D x k).getD k Ls.zero = x := by
  unfold bub
  rw [List.getD_eq_getElem?_getD, List.getElem?_append_right (by rw [List.length_take]; omega), List.length_take, Nat.min_eq_left hk, Nat.sub_self]
  rfl
theorem bub_below {D : List Ls} {x : Ls} {k j : Nat} (hk : k ≤ D.length) (hj : j < k) : (bub D x k).getD j Ls.zero = D.getD j Ls.zero := by
  unfold bub
  rw [List.getD_eq_getElem?_getD, List.getElem?_append_left (by rw [List.length_take]; omega), List.getElem?_take, if_pos hj, ← List.getD_eq_getElem?_getD]
theorem bub_parts {D : List Ls} {x : Ls} {k : Nat} (hk : k + 1 ≤ D.length) : bub D x (k + 1) = D.take k ++ D.getD k Ls.zero :: x :: D.drop (k + 1) ∧ bub D x k = D.take k ++ x :: D.getD k Ls.zero :: D.drop (k + 1) := by
  have e : D.drop k = D.getD k Ls.zero :: D.drop (k + 1) := by rw [getD_of (by omega)]; exact List.drop_eq_getElem_cons (by omega)
  constructor
  · unfold bub
    rw [take_snoc (by omega), List.append_assoc]
    rfl
  · unfold bub
    rw [e]
theorem bub_ins {l D : List Ls} {x : Ls} {k : Nat} (hA : Asc l) (hD : D = l.filter (other x.name)) (hk : k ≤ D.length) (h1 : ∀ j, k ≤ j → j < D.length → x.name < (D.getD j Ls.zero).name)
    (h2 : ∀ j, k = j + 1 → (D.getD j Ls.zero).name ≤ x.name) : bub D x k = ins x l := by
  have e : D = lo x.name l ++ hi x.name l := by rw [hD]; exact hA.without x.name
  have hl : D.length = (lo x.name l).length + (hi x.name l).length := by rw [e, List.length_append]
  have k1 : ¬ k < (lo x.name l).length := fun h => by
    have h3 := h1 k (Nat.le_refl _) (by omega)
    rw [e, List.getD_eq_getElem?_getD, List.getElem?_append_left h, List.getElem?_eq_getElem h] at h3
    have h4 := (mem_lo.1 (List.getElem_mem h)).2
    simp only [Option.getD_some] at h3
    omega
  have k2 : ¬ (lo x.name l).length < k := fun h => by
    have h3 := h2 (k - 1) (by omega)
    rw [e, List.getD_eq_getElem?_getD, List.getElem?_append_right (by omega), List.getElem?_eq_getElem (by omega)] at h3
    have h4 := (mem_hi.1 (List.getElem_mem (l := hi x.name l) (n := k - 1 - (lo x.name l).length) (by omega))).2
    simp only [Option.getD_some] at h3
    omega
  obtain rfl : k = (lo x.name l).length := by omega
  unfold bub ins
  rw [e, List.take_left, List.drop_left]
/-- two neighbours of an owned row change places -/
theorem Own.swap {w : World} {g n cap o o2 : Nat} {a b : List Ls} {x y : Ls} (h : Own w 38 4 (.slice (some ⟨g, 0, none⟩) n cap) n ((a ++ y :: x :: b).flatMap lcells)) (ho : o = a.length * 4) (ho2 : o2 = (a.length + 1) * 4) :
    Own ((w.setCells g o (lcells x)).setCells g o2 (lcells y)) 38 4 (.slice (some ⟨g, 0, none⟩) n cap) n ((a ++ x :: y :: b).flatMap lcells) ∧ w.grownBy ((w.setCells g o (lcells x)).setCells g o2 (lcells y)) (some g) := by
  subst ho ho2
  obtain ⟨C, hb, hnc, hcm, hcl, hct⟩ := h.blk
  refine ⟨?_, grown_trans (setCells_grown _ _ _ _) (setCells_grown _ _ _ _)⟩
  have la := lcells_len a
  have lx : (lcells x).length = 4 := rfl
  have ly : (lcells y).length = 4 := rfl
  have e : C = a.flatMap lcells ++ (lcells y ++ (lcells x ++ (b.flatMap lcells ++ C.drop (n * 4)))) := by
    have := List.take_append_drop (n * 4) C
    rw [hct] at this
    refine this.symm.trans ?_
    simp [List.flatMap_append, List.flatMap_cons]
  generalize C.drop (n * 4) = R at e
  generalize ha : a.flatMap lcells = A at *
  have m1 := setCells_mid C (a.length * 4) (lcells x) hb (by rw [e]; simp only [List.length_append]; omega)
  have e1 : C.take (a.length * 4) ++ (lcells x ++ C.drop (a.length * 4 + (lcells x).length)) = A ++ (lcells x ++ (lcells x ++ (b.flatMap lcells ++ R))) := by
    rw [e, List.take_left' (by omega), lx, ← List.drop_drop, List.drop_left' (by omega), List.drop_left' ly]
  rw [e1] at m1
  have m2 := setCells_mid _ ((a.length + 1) * 4) (lcells y) m1 (by simp only [List.length_append]; omega)
  have e2 : (A ++ (lcells x ++ (lcells x ++ (b.flatMap lcells ++ R)))).take ((a.length + 1) * 4) ++ (lcells y ++ (A ++ (lcells x ++ (lcells x ++ (b.flatMap lcells ++ R)))).drop ((a.length + 1) * 4 + (lcells y).length)) = A ++ (lcells x ++ (lcells y ++ (b.flatMap lcells ++ R))) := by
    rw [← List.append_assoc A (lcells x), List.take_left' (by rw [List.length_append]; omega), ly, ← List.drop_drop, List.drop_left' (by rw [List.length_append]; omega), List.drop_left' lx, List.append_assoc]
  rw [e2] at m2
  have hC2 : C.length = (A ++ (lcells x ++ (lcells y ++ (b.flatMap lcells ++ R)))).length := by rw [e]; simp only [List.length_append]; omega
  refine Own.mk' m2 hnc hcm (by rw [← hC2]; exact hcl) ?_
  have e3 : A ++ (lcells x ++ (lcells y ++ (b.flatMap lcells ++ R))) = ((a ++ x :: y :: b).flatMap lcells) ++ R := by simp [List.flatMap_append, List.flatMap_cons, ha]
  rw [e3]
  refine List.take_left' ?_
  have hh := congrArg List.length hct
  rw [List.length_take] at hh
  simp only [List.flatMap_append, List.flatMap_cons, List.length_append] at hh ⊢
  have h9 : n * 4 ≤ cap * 4 := Nat.mul_le_mul_right _ hnc
  omega
theorem swap_low {D : List Ls} {x y : Ls} {j k : Nat} (h : ∀ i, k ≤ i → i < D.length → x.name < (D.getD i Ls.zero).name) (hlt : x.name < y.name) (hy : D.getD j Ls.zero = y) (hk : k = j + 1) : ∀ i, j ≤ i → i < D.length → x.name < (D.getD i Ls.zero).name := fun i h1 h2 => by
  by_cases e : i = j
  · rw [e, hy]; exact hlt
  · exact h i (by omega) h2
theorem low_put {D : List Ls} {x y : Ls} {j k : Nat} (hy : D.getD j Ls.zero = y) (hk : k - 1 = j) (h : y.name ≤ x.name) : ∀ i, k = i + 1 → (D.getD i Ls.zero).name ≤ x.name := fun i hi => by
  have e : i = j := by omega
  rw [e, hy]; exact h
theorem swap_put {w wr : World} {next : Int} {sv : Value} {x y : Ls} (nq : Nat) {g k2 cap j k : Nat} {D : List Ls} {A : List Value} (h : PF w wr next sv x A) (ho : Own wr 38 4 (.slice (some ⟨g, 0, none⟩) (k2 + 1) cap) (k2 + 1) ((bub D x k).flatMap lcells))
    (hg : w.heap.size + 1 + 1 < g) (hkD : k ≤ D.length) (hy : D.getD j Ls.zero = y) (hk : k = j + 1) :
    Own (((wr.drewN (nq + 1)).setCells g (j * 4) (lcells x)).setCells g (k * 4) (lcells y)) 38 4 (.slice (some ⟨g, 0, none⟩) (k2 + 1) cap) (k2 + 1) ((bub D x j).flatMap lcells) ∧
    PF w (((wr.drewN (nq + 1)).setCells g (j * 4) (lcells x)).setCells g (k * 4) (lcells y)) next sv x A := by
  subst hk
  obtain ⟨e1, e2⟩ := bub_parts (x := x) hkD
  rw [hy] at e1 e2
  rw [e1] at ho
  have hl : (D.take j).length = j := by rw [List.length_take]; omega
  have := Own.swap (o := j * 4) (o2 := (j + 1) * 4) (ho.kn (grown_drewN wr (nq + 1))) (by rw [hl]) (by rw [hl])
  rw [e2]
  exact ⟨this.1, (h.call (grown_drewN wr (nq + 1))).far this.2 hg⟩
theorem fin_put {w wr : World} {next nx : Int} {sv : Value} {x : Ls} {nq g k2 cap : Nat} {B L : List Ls} {fn : Func} {a : Act} (h : PF w wr next sv x [.int .i64 0, .slice none 0 0]) (ho : Own wr 38 4 (.slice (some ⟨g, 0, none⟩) (k2 + 1) cap) (k2 + 1) (B.flatMap lcells))
    (hg : w.heap.size + 1 + 1 < g) (hB : B = L) (hf : fn.results = #[.cell 6 24]) (ha : a.tmps.getD 6 undef = ptr (w.heap.size + 1 + 1)) (hd : a.defers = []) :
    bodyPost Try.prog fn (fun e w' => ∃ s', e = .returned (.agg #[.int .i64 nx, s']) ∧ Rd w' s' L ∧ w.grownBy w' none) .ret a
      (((wr.drewN nq).setCell ⟨w.heap.size + 1 + 1, 0, none⟩ (.int .i64 nx)).setCell ⟨w.heap.size + 1 + 1, 1, none⟩ (.slice (some ⟨g, 0, none⟩) (k2 + 1) cap)) := by
  have p1 := h.call (grown_drewN wr nq)
  have o1 := ho.kn (grown_drewN wr nq)
  have g1 := grown_setCell (wr.drewN nq) ⟨w.heap.size + 1 + 1, 0, none⟩ (.int .i64 nx)
  have b1 := heap_setCell_same (wr.drewN nq) (w.heap.size + 1 + 1) 0 _ 24 (.int .i64 nx) p1.b2
  have g2 := grown_setCell ((wr.drewN nq).setCell ⟨w.heap.size + 1 + 1, 0, none⟩ (.int .i64 nx)) ⟨w.heap.size + 1 + 1, 1, none⟩ (.slice (some ⟨g, 0, none⟩) (k2 + 1) cap)
  have b2 := heap_setCell_same _ (w.heap.size + 1 + 1) 1 _ 24 (.slice (some ⟨g, 0, none⟩) (k2 + 1) cap) b1
  have o3 := Own.past (Own.past o1 g1 p1.b2 (by decide)) g2 b1 (by decide)
  subst hB
  exact ret_cell (b := w.heap.size + 1 + 1) (cs := [.int .i64 nx, .slice (some ⟨g, 0, none⟩) (k2 + 1) cap]) hf ha (tyT _ _ _ _) (by simpa using b2) hd ⟨_, rfl, Own.rd o3, grown_newR (grown_newR p1.g g1 (show w.heap.size ≤ w.heap.size + 1 + 1 by omega)) g2 (show w.heap.size ≤ w.heap.size + 1 + 1 by omega)⟩
set_option maxRecDepth 100000 in
set_option maxHeartbeats 2000000 in
theorem put_walk (t : Tb) (x : Ls) (nx : Int) (s : Value) (w : World) (hR : Rd w s t.ls) (hn : t.ls.length ≤ 1000000) (hA : Asc t.ls) :
    Calls Try.prog 50 #[tval t.next s, lval x, .int .i64 nx] w fun e w' => ∃ s', e = .returned (tval nx s') ∧ Rd w' s' (ins x t.ls) ∧ w.grownBy w' none := by
  obtain ⟨next, l⟩ := t
  simp only at hR hn hA ⊢
  obtain ⟨ao, cap, rfl, hc1, hc2⟩ := Sl.shape hR
  have HR := hid hR
  have HA := hid hA
  clear hR hA
  unfold tval lval
  obtain ⟨W, hW⟩ : ∃ W, W = (((w.alloc (.cells #[.int .i64 next, .slice ao l.length cap] 24)).alloc (.cells #[.int .i64 x.name, .int .i64 x.holder, .int .i64 x.token, .int .i64 x.till] 38)).alloc (.cells #[.int .i64 0, .slice none 0 0] 24)) := ⟨_, rfl⟩
  have F0 := hid (show PF w W next (.slice ao l.length cap) x [.int .i64 0, .slice none 0 0] from by rw [hW]; exact PF.start w next _ _ _)
  have HWW := hid hW
  clear hW
  go_enter Try.func50, Try.ntmps50
  go_wp2
  rw [← HWW.out]
  have c1 : W.cell? ⟨w.heap.size, 1, none⟩ = some (.slice ao l.length cap) := by rw [cell_of_row _ _ _ _ _ _ F0.out.b0]; rfl
  have d0 : W.cell? ⟨w.heap.size + 1, 0, none⟩ = some (.int .i64 x.name) := by rw [cell_of_row _ _ _ _ _ _ F0.out.b1]; rfl
  have d1 : W.cell? ⟨w.heap.size + 1, 1, none⟩ = some (.int .i64 x.holder) := by rw [cell_of_row _ _ _ _ _ _ F0.out.b1]; rfl
  have d2 : W.cell? ⟨w.heap.size + 1, 2, none⟩ = some (.int .i64 x.token) := by rw [cell_of_row _ _ _ _ _ _ F0.out.b1]; rfl
  have d3 : W.cell? ⟨w.heap.size + 1, 3, none⟩ = some (.int .i64 x.till) := by rw [cell_of_row _ _ _ _ _ _ F0.out.b1]; rfl
  have C1 := hid c1
  have D0 := hid d0
  have D1 := hid d1
  have D2 := hid d2
  have D3 := hid d3
  have z0 := (Array.getElem?_eq_some_iff.1 F0.out.b2).1
  have HZ := hid z0
  have z1 : w.heap.size + 1 < W.heap.size := by omega
  have z2 : w.heap.size < W.heap.size := by omega
  go_region_held3 (fun w' => w'.cell? ⟨w.heap.size, 1, none⟩ = some (.slice ao l.length cap) ∧ w'.cell? ⟨w.heap.size + 1, 0, none⟩ = some (.int .i64 x.name) ∧ w'.cell? ⟨w.heap.size + 1, 1, none⟩ = some (.int .i64 x.holder) ∧ w'.cell? ⟨w.heap.size + 1, 2, none⟩ = some (.int .i64 x.token) ∧ w'.cell? ⟨w.heap.size + 1, 3, none⟩ = some (.int .i64 x.till)) (first | go_keep | exact ⟨c1, d0, d1, d2, d3⟩ | fail)
    (first
      | (refine step_callS rfl 51 #[.tmp 10, .tmp 12] #[22, 3] rfl enterWithout #[.slice ao l.length cap, .int .i64 x.name] (by simp [Act.eval, Act.put]) (without_call (w0 := W) (Sl.kn HR.out F0.out.g) (by first | exact grown_drew _ | exact grown_trans (World.grownBy_alloc _ _ _) (grown_drew _) | exact grown_trans (grown_drew _) (World.grownBy_alloc _ _ _)) hn) ?_
         rintro e w2 ⟨ao2, cap2, k2, rfl, hk2, M2⟩
         refine ⟨_, rfl, ?_⟩
         have c1 := grown_cell M2.out.2.2.2 c1 (by simp)
         have d0 := grown_cell M2.out.2.2.2 d0 (by simp)
         have d1 := grown_cell M2.out.2.2.2 d1 (by simp)
         have d2 := grown_cell M2.out.2.2.2 d2 (by simp)
         have d3 := grown_cell M2.out.2.2.2 d3 (by simp))
      | (refine step_pushS leaseT rfl (.tmp 13) (.tmp 15) rfl (.slice ao2 k2 cap2) k2 _ rfl (lcells x) 1 w2.heap.size (M2.out.2.1.alloc _) rfl rfl rfl rfl (by omega) ?_
         intro ad9 cap9 w5 hown5 hst5
         have M5 := hid (And.intro hown5 (show Fresh W w5 (.slice ad9 (k2 + 1) cap9) from Step.drew (Step.trans M2.out.2.2.1 (Step.alloc hst5))))
         have c1 := grown_cell (Step.none M5.out.2) C1.out (by simp)
         have d0 := grown_cell (Step.none M5.out.2) D0.out (by simp)
         have d1 := grown_cell (Step.none M5.out.2) D1.out (by simp)
         have d2 := grown_cell (Step.none M5.out.2) D2.out (by simp)
         have d3 := grown_cell (Step.none M5.out.2) D3.out (by simp)
         clear hown5 hst5)
      | (refine step_appS leaseT rfl (.tmp 13) (.tmp 15) rfl (.slice ao2 k2 cap2) k2 _ rfl M2.out.2.1 (.slice (some ⟨W.heap.size, 0, none⟩) 1 1) 1 (lcells x) rfl (by first | exact Sl.kn (Sl.new (w := W) rfl rfl) (grown_trans (grown_drew _) (Step.none M2.out.2.2.1)) | exact Sl.kn (Sl.new (w := W.drew) rfl rfl) (Step.none M2.out.2.2.1)) rfl (by omega) ?_
         intro v5 w5 hown5 hst5
         obtain ⟨ad9, cap9, rfl, _, _⟩ := (Sl.of_own hown5).shape
         have M5 := hid (And.intro hown5 (show Fresh W w5 (.slice ad9 (k2 + 1) cap9) from by first | exact Step.alloc (Step.drew (Step.trans M2.out.2.2.1 hst5)) | exact Step.drew (Step.alloc (Step.trans M2.out.2.2.1 hst5))))
         have c1 := grown_cell (Step.none M5.out.2) C1.out (by simp)
         have d0 := grown_cell (Step.none M5.out.2) D0.out (by simp)
         have d1 := grown_cell (Step.none M5.out.2) D1.out (by simp)
         have d2 := grown_cell (Step.none M5.out.2) D2.out (by simp)
         have d3 := grown_cell (Step.none M5.out.2) D3.out (by simp)
         clear hown5 hst5)
      | fail)
  all_goals
    clear c1 d0 d1 d2 d3
    obtain ⟨D, hD⟩ : ∃ D, D = l.filter (other x.name) := ⟨_, rfl⟩
    have HD := hid hD
    have hk : D.length = k2 := by rw [HD.out]; exact M2.out.1.symm
    have HK := hid hk
    have hown : Own w5 38 4 (.slice ad9 (k2 + 1) cap9) (k2 + 1) ((bub D x k2).flatMap lcells) := by
      rw [← HK.out, bub_end, List.flatMap_append, HK.out, HD.out]
      simpa using M5.out.1
    obtain ⟨g, cap9', he⟩ := Own.shp hown (by omega)
    simp only [Value.slice.injEq] at he
    obtain ⟨rfl, _, rfl⟩ := he
    have hgB : w.heap.size + 1 + 1 < g := by
      rcases M5.out.2.2 g rfl with h | h
      · simp [Value.ownBlock] at h
      · have := HZ.out
        omega
    have F5 := hid (F0.out.call (Step.none M5.out.2))
    have OW := hid hown
    have HG := hid hgB
    clear hown hgB hD hk
    go_wp2
    go_loopw [8] (fun i wr => ∃ k : Nat, k ≤ k2 ∧ i = .int .i64 k ∧ (∀ j, k ≤ j → j < D.length → x.name < (D.getD j Ls.zero).name) ∧ Own wr 38 4 (.slice (some ⟨g, 0, none⟩) (k2 + 1) cap9) (k2 + 1) ((bub D x k).flatMap lcells) ∧ PF w wr next (.slice ao l.length cap) x [.int .i64 0, .slice none 0 0]) (fun i _ => (intOf i).toNat)
    case atStart => exact ⟨k2, Nat.le_refl _, by go_num, fun j h1 h2 => by have := HK.out; omega, OW.out, F5.out⟩
    case round =>
      obtain ⟨k, hk, rfl, hj, hown, hpf⟩ := hrel
      have HJ := hid hj
      have OK := hid hown
      have PK := hid hpf
      clear hj hown hpf
      have hkD : k ≤ D.length := by have := HK.out; omega
      by_cases hk0 : 0 < k
      · have hr := Rd.cellD (Own.rd OK.out) k (by rw [bub_len]; omega)
        rw [bub_at hkD] at hr
        have hr2 := Rd.cellD (Own.rd OK.out) (k - 1) (by rw [bub_len]; omega)
        rw [bub_below hkD (by omega)] at hr2
        simp only [Nat.zero_add] at hr hr2
        have e0 : wr.cell? ⟨g, k * 4, none⟩ = some (.int .i64 x.name) := hr 0 _ rfl
        have e1 : wr.cell? ⟨g, k * 4 + 1, none⟩ = some (.int .i64 x.holder) := hr 1 _ rfl
        have e2 : wr.cell? ⟨g, k * 4 + 2, none⟩ = some (.int .i64 x.token) := hr 2 _ rfl
        have e3 : wr.cell? ⟨g, k * 4 + 3, none⟩ = some (.int .i64 x.till) := hr 3 _ rfl
        have f0 : wr.cell? ⟨g, (k - 1) * 4, none⟩ = some (.int .i64 (D.getD (k - 1) Ls.zero).name) := hr2 0 _ rfl
        have f1 : wr.cell? ⟨g, (k - 1) * 4 + 1, none⟩ = some (.int .i64 (D.getD (k - 1) Ls.zero).holder) := hr2 1 _ rfl
        have f2 : wr.cell? ⟨g, (k - 1) * 4 + 2, none⟩ = some (.int .i64 (D.getD (k - 1) Ls.zero).token) := hr2 2 _ rfl
        have f3 : wr.cell? ⟨g, (k - 1) * 4 + 3, none⟩ = some (.int .i64 (D.getD (k - 1) Ls.zero).till) := hr2 3 _ rfl
        have hi1 : (0 : Int) ≤ (k : Int) := by omega
        have hi2 : (k : Int) < (k2 : Int) + 1 := by omega
        have m1 : IntKind.i64.wrap ((k : Int) - 1) = ((k - 1 : Nat) : Int) := by rw [IntKind.wrap_i64]; omega
        have m2 : (0 : Int) ≤ ((k - 1 : Nat) : Int) := by omega
        have m3 : ((k - 1 : Nat) : Int) < (k2 : Int) + 1 := by omega
        have hd0 : decide (0 < k) = true := decide_eq_true hk0
        clear hr hr2
        have HKD := hid hkD
        have HK0 := hid hk0
        have HKK := hid hk
        clear hkD hk0 hk
        generalize hy : D.getD (k - 1) Ls.zero = y at *
        have HY := hid hy
        generalize hjk : k - 1 = j at *
        have HJK := hid hjk
        clear hjk hy
        by_cases hlt : x.name < y.name
        · have HLT := hid hlt
          have Q2 := hid (show k = j + 1 by have := HJK.out; have := HK0.out; omega)
          have q1 : ¬ j = k := by have := Q2.out; omega
          have q3 : ¬ k = j := by have := Q2.out; omega
          have fz : ∀ o, wr.frozen? ⟨g, o, none⟩ = false := fun o => by obtain ⟨C, hb, _⟩ := OK.out.blk; exact frozen_of_row _ _ _ _ _ hb
          go_wp2
          go_quiet (fail)
          go_wp2
          clear hd0
          have HS := hid (swap_put nq PK.out OK.out HG.out HKD.out HY.out Q2.out)
          have HN := hid (swap_low HJ.out HLT.out HY.out Q2.out)
          have HJ2 := hid (show j ≤ k2 by have := Q2.out; have := HKK.out; omega)
          go_region
          all_goals go_wp2
          all_goals go_roundw
          case rel => exact ⟨j, HJ2.out, by go_num, HN.out, HS.out.1, HS.out.2⟩
          case measure => have := Q2.out; simp [intOf]; omega
        · have HLT := hid (show y.name ≤ x.name by omega)
          have a0 : wr.cell? ⟨w.heap.size + 1 + 1, 0, none⟩ = some (.int .i64 0) := by rw [cell_of_row _ _ _ _ _ _ PK.out.b2]; rfl
          have a1 : wr.cell? ⟨w.heap.size + 1 + 1, 1, none⟩ = some (.slice none 0 0) := by rw [cell_of_row _ _ _ _ _ _ PK.out.b2]; rfl
          have b0 : wr.frozen? ⟨w.heap.size + 1 + 1, 0, none⟩ = false := frozen_of_row _ _ _ _ _ PK.out.b2
          have b1 : wr.frozen? ⟨w.heap.size + 1 + 1, 1, none⟩ = false := frozen_of_row _ _ _ _ _ PK.out.b2
          go_wp2
          go_quiet (fail)
          go_wp2
          have HB := hid (bub_ins HA.out HD.out HKD.out HJ.out (low_put HY.out HJK.out HLT.out))
          exact fin_put PK.out OK.out HG.out HB.out rfl rfl rfl
      · obtain rfl : k = 0 := by omega
        have a0 : wr.cell? ⟨w.heap.size + 1 + 1, 0, none⟩ = some (.int .i64 0) := by rw [cell_of_row _ _ _ _ _ _ PK.out.b2]; rfl
        have a1 : wr.cell? ⟨w.heap.size + 1 + 1, 1, none⟩ = some (.slice none 0 0) := by rw [cell_of_row _ _ _ _ _ _ PK.out.b2]; rfl
        have b0 : wr.frozen? ⟨w.heap.size + 1 + 1, 0, none⟩ = false := frozen_of_row _ _ _ _ _ PK.out.b2
        have b1 : wr.frozen? ⟨w.heap.size + 1 + 1, 1, none⟩ = false := frozen_of_row _ _ _ _ _ PK.out.b2
        go_wp2
        go_quiet (fail)
        go_wp2
        have HB := hid (bub_ins HA.out HD.out hkD HJ.out (fun i hi => by omega))
        exact fin_put PK.out OK.out HG.out HB.out rfl rfl rfl
end Go.Proofs.Ytafippjpaakonaa
