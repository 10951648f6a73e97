/- Leases: the program's operations. -/
import Derived.Test.YtafippjpaakonaaW9
import Derived.Deep.RegionHeld3
namespace Go.Proofs.Ytafippjpaakonaa
open Go.RowKit
set_option linter.unusedSimpArgs false
set_option linter.unusedVariables false

set_option maxRecDepth 100000 in
theorem recAcq_walk (a0 a1 a2 : Value) (w : World) : CallsD Try.prog 24 #[a0, a1, a2] .returning w fun e u' w' => e = .returned (.tuple #[]) ∧ u' = .returning ∧ w' = w := by
  refine callsD_of_wpS Try.func24 rfl fun c₀ cs hu => ?_
  apply wpS_seq
  apply wpS_region
  simp [wpOpsS, go_sem, recoverD, hu, Try.ntmps24]
  refine wpS_cond (t := false) rfl ?_
  refine wpS_of_wp (wp_skip ?_)
  cases c₀
  simp_all [bodyPostS, results, Try.results24]
set_option maxRecDepth 100000 in
theorem recExpire_walk (a0 : Value) (w : World) : CallsD Try.prog 31 #[a0] .returning w fun e u' w' => e = .returned (.tuple #[]) ∧ u' = .returning ∧ w' = w := by
  refine callsD_of_wpS Try.func31 rfl fun c₀ cs hu => ?_
  apply wpS_seq
  apply wpS_region
  simp [wpOpsS, go_sem, recoverD, hu, Try.ntmps31]
  refine wpS_cond (t := false) rfl ?_
  refine wpS_of_wp (wp_skip ?_)
  cases c₀
  simp_all [bodyPostS, results, Try.results31]
set_option maxRecDepth 100000 in
theorem recFind_walk (a0 a1 : Value) (w : World) : CallsD Try.prog 38 #[a0, a1] .returning w fun e u' w' => e = .returned (.tuple #[]) ∧ u' = .returning ∧ w' = w := by
  refine callsD_of_wpS Try.func38 rfl fun c₀ cs hu => ?_
  apply wpS_seq
  apply wpS_region
  simp [wpOpsS, go_sem, recoverD, hu, Try.ntmps38]
  refine wpS_cond (t := false) rfl ?_
  refine wpS_of_wp (wp_skip ?_)
  cases c₀
  simp_all [bodyPostS, results, Try.results38]
set_option maxRecDepth 100000 in
theorem recRenew_walk (a0 a1 : Value) (w : World) : CallsD Try.prog 39 #[a0, a1] .returning w fun e u' w' => e = .returned (.tuple #[]) ∧ u' = .returning ∧ w' = w := by
  refine callsD_of_wpS Try.func39 rfl fun c₀ cs hu => ?_
  apply wpS_seq
  apply wpS_region
  simp [wpOpsS, go_sem, recoverD, hu, Try.ntmps39]
  refine wpS_cond (t := false) rfl ?_
  refine wpS_of_wp (wp_skip ?_)
  cases c₀
  simp_all [bodyPostS, results, Try.results39]
set_option maxRecDepth 100000 in
theorem recRelease_walk (a0 a1 : Value) (w : World) : CallsD Try.prog 40 #[a0, a1] .returning w fun e u' w' => e = .returned (.tuple #[]) ∧ u' = .returning ∧ w' = w := by
  refine callsD_of_wpS Try.func40 rfl fun c₀ cs hu => ?_
  apply wpS_seq
  apply wpS_region
  simp [wpOpsS, go_sem, recoverD, hu, Try.ntmps40]
  refine wpS_cond (t := false) rfl ?_
  refine wpS_of_wp (wp_skip ?_)
  cases c₀
  simp_all [bodyPostS, results, Try.results40]
theorem results2 {P : Program} {fn : Func} {p q : Tmp} {T S : TypeId} (h : fn.results = #[.cell p T, .cell q S]) {tmps : Array Value} {w : World} {b0 b1 : Nat} {c0 c1 : List Value} {v0 v1 : Value} {fr0 fr1 : Nat × Nat} {u0 u1 : TypeId}
    (hp : tmps.getD p undef = ptr b0) (hq : tmps.getD q undef = ptr b1) (t0 : TY P T c0 v0) (t1 : TY P S c1 v1)
    (h0 : w.heap[b0]? = some (.cells c0.toArray u0 fr0)) (h1 : w.heap[b1]? = some (.cells c1.toArray u1 fr1)) :
    (results fn tmps).run P w = .ok (.tuple #[v0, v1]) w := by
  have e0 := t0.load w b0 0 (rangeAt_row h0)
  have e1 := t1.load w b1 0 (rangeAt_row h1)
  have hp' : tmps[p]?.getD undef = .pointer (some ⟨b0, 0, none⟩) := by simpa [ptr] using hp
  have hq' : tmps[q]?.getD undef = .pointer (some ⟨b1, 0, none⟩) := by simpa [ptr] using hq
  simp [results, h, hp', hq', asAddr, e0, e1]
theorem results1 {P : Program} {fn : Func} {p : Tmp} {T : TypeId} (h : fn.results = #[.cell p T]) {tmps : Array Value} {w : World} {b0 : Nat} {c0 : List Value} {v0 : Value} {fr0 : Nat × Nat} {u0 : TypeId}
    (hp : tmps.getD p undef = ptr b0) (t0 : TY P T c0 v0)
    (h0 : w.heap[b0]? = some (.cells c0.toArray u0 fr0)) :
    (results fn tmps).run P w = .ok v0 w := by
  have e0 := t0.load w b0 0 (rangeAt_row h0)
  have hp' : tmps[p]?.getD undef = .pointer (some ⟨b0, 0, none⟩) := by simpa [ptr] using hp
  simp [results, h, hp', asAddr, e0]
abbrev cds : Codes := ⟨1, 11, 8, 102⟩
def AcqPost (r : Tb × Int × Int) (w : World) (e : Ending) (w' : World) : Prop :=
  ∃ s', e = .returned (.tuple #[tval r.1.next s', .int .i64 r.2.1, .int .i64 r.2.2]) ∧ Rd w' s' r.1.ls ∧ w.grownBy w' none
/-- the blocks of Acquire -/
structure AF (w wr : World) (next : Int) (sv : Value) (A : List Value) (tok er : Value) : Prop where
  g : w.grownBy wr none
  b0 : wr.heap[w.heap.size]? = some (.cells #[.int .i64 next, sv] 24 (0, 0))
  b1 : wr.heap[w.heap.size + 1]? = some (.cells A.toArray 24 (0, 0))
  b2 : wr.heap[w.heap.size + 1 + 1]? = some (.cells #[tok] 3 (0, 0))
  b3 : wr.heap[w.heap.size + 1 + 1 + 1]? = some (.cells #[er] 26 (0, 0))
theorem AF.call {w wr w' : World} {next : Int} {sv : Value} {A : List Value} {tok er : Value} (h : AF w wr next sv A tok er) (g : wr.grownBy w' none) : AF w w' next sv A tok er :=
  ⟨grown_trans h.g g, row_of g h.b0 (by simp), row_of g h.b1 (by simp), row_of g h.b2 (by simp), row_of g h.b3 (by simp)⟩
theorem AF.s1 {w wr w' : World} {next : Int} {sv : Value} {A A' : List Value} {tok er : Value} (h : AF w wr next sv A tok er) (g : wr.grownBy w' (some (w.heap.size + 1))) (hb : w'.heap[w.heap.size + 1]? = some (.cells A'.toArray 24 (0, 0))) : AF w w' next sv A' tok er :=
  ⟨grown_newR h.g g (by omega), row_of g h.b0 (by simp), hb, row_of g h.b2 (by simp), row_of g h.b3 (by simp <;> omega)⟩
theorem AF.far {w wr w' : World} {next : Int} {sv : Value} {A : List Value} {tok er : Value} {k : Nat} (h : AF w wr next sv A tok er) (g : wr.grownBy w' (some k)) (hk : w.heap.size + 1 + 1 + 1 < k) : AF w w' next sv A tok er :=
  ⟨grown_newR h.g g (by omega), row_of g h.b0 (by simp <;> omega), row_of g h.b1 (by simp <;> omega), row_of g h.b2 (by simp <;> omega), row_of g h.b3 (by simp <;> omega)⟩
theorem AF.step {w wr w' : World} {next : Int} {sv : Value} {A : List Value} {tok er : Value} {q : Option Nat} (h : AF w wr next sv A tok er) (g : wr.grownBy w' q) (hk : ∀ k, q = some k → w.heap.size + 1 + 1 + 1 < k) : AF w w' next sv A tok er := by
  cases q with
  | none => exact h.call g
  | some k => exact h.far g (hk k rfl)
theorem AF.s2 {w wr w' : World} {next : Int} {sv : Value} {A : List Value} {tok tok' er : Value} (h : AF w wr next sv A tok er) (g : wr.grownBy w' (some (w.heap.size + 1 + 1))) (hb : w'.heap[w.heap.size + 1 + 1]? = some (.cells [tok'].toArray 3 (0, 0))) : AF w w' next sv A tok' er :=
  ⟨grown_newR h.g g (by omega), row_of g h.b0 (by simp <;> omega), row_of g h.b1 (by simp), hb, row_of g h.b3 (by simp)⟩
theorem AF.s3 {w wr w' : World} {next : Int} {sv : Value} {A : List Value} {tok er er' : Value} (h : AF w wr next sv A tok er) (g : wr.grownBy w' (some (w.heap.size + 1 + 1 + 1))) (hb : w'.heap[w.heap.size + 1 + 1 + 1]? = some (.cells [er'].toArray 26 (0, 0))) : AF w w' next sv A tok er' :=
  ⟨grown_newR h.g g (by omega), row_of g h.b0 (by simp <;> omega), row_of g h.b1 (by simp <;> omega), row_of g h.b2 (by simp), hb⟩

theorem acq_inv1 {c : Codes} {t : Tb} {n h now d : Int} (h1 : t.ok = false) : acq c t n h now d = (.zero, 0, c.invalid) := by unfold acq; rw [h1]; rfl
theorem acq_inv2 {c : Codes} {t : Tb} {n h now d : Int} (h1 : timely now d = false) : acq c t n h now d = (.zero, 0, c.invalid) := by unfold acq; rw [h1]; cases t.ok <;> rfl
theorem acq_state {c : Codes} {t : Tb} {n h now d : Int} {x : Ls} (h1 : t.ok = true) (h2 : timely now d = true) (h3 : look n t.ls = some x) (h4 : now < x.till) : acq c t n h now d = (.zero, 0, c.state) := by
  unfold acq; rw [h1, h2, h3]; simp [h4]
theorem acq_full1 {c : Codes} {t : Tb} {n h now d : Int} {x : Ls} (h1 : t.ok = true) (h2 : timely now d = true) (h3 : look n t.ls = some x) (h4 : ¬ now < x.till) (h5 : t.next = Top) : acq c t n h now d = (.zero, 0, c.full) := by
  unfold acq; rw [h1, h2, h3]; simp [h4, h5]
theorem acq_ok1 {c : Codes} {t : Tb} {n h now d : Int} {x : Ls} (h1 : t.ok = true) (h2 : timely now d = true) (h3 : look n t.ls = some x) (h4 : ¬ now < x.till) (h5 : ¬ t.next = Top) : acq c t n h now d = (⟨t.next + 1, ins ⟨n, h, t.next, now + d⟩ t.ls⟩, t.next, 0) := by
  unfold acq; rw [h1, h2, h3]; simp [h4, h5]
theorem acq_full2 {c : Codes} {t : Tb} {n h now d : Int} (h1 : t.ok = true) (h2 : timely now d = true) (h3 : look n t.ls = none) (h5 : 64 ≤ t.ls.length ∨ t.next = Top) : acq c t n h now d = (.zero, 0, c.full) := by
  unfold acq; rw [h1, h2, h3]; simp only [Bool.not_true, Bool.or_self, Bool.false_eq_true, if_false]; rw [if_pos h5]
theorem acq_ok2 {c : Codes} {t : Tb} {n h now d : Int} (h1 : t.ok = true) (h2 : timely now d = true) (h3 : look n t.ls = none) (h5 : ¬ (64 ≤ t.ls.length ∨ t.next = Top)) : acq c t n h now d = (⟨t.next + 1, ins ⟨n, h, t.next, now + d⟩ t.ls⟩, t.next, 0) := by
  unfold acq; rw [h1, h2, h3]; simp only [Bool.not_true, Bool.or_self, Bool.false_eq_true, if_false]; rw [if_neg h5]
theorem set_ins {l : List Ls} (h : Asc l) {n : Int} {x y : Ls} (hl : look n l = some x) (hy : y.name = n) : l.set (lo n l).length y = ins y l := by
  have hs := h.split n
  rw [hl] at hs
  subst hy
  unfold ins
  generalize lo y.name l = a at *
  generalize Go.Proofs.Ytafippjpaakonaa.hi y.name l = b at *
  subst hs
  simp
theorem insert_ins {l : List Ls} (h : Asc l) {n : Int} {y : Ls} (hl : look n l = none) (hy : y.name = n) : l.take (lo n l).length ++ y :: l.drop (lo n l).length = ins y l := by
  have hs := h.split n
  rw [hl] at hs
  subst hy
  unfold ins
  generalize lo y.name l = a at *
  generalize Go.Proofs.Ytafippjpaakonaa.hi y.name l = b at *
  subst hs
  simp
theorem erase_del {l : List Ls} (h : Asc l) {n : Int} {x : Ls} (hl : look n l = some x) : l.take (lo n l).length ++ l.drop ((lo n l).length + 1) = del n l := by
  have hs := h.split n
  rw [hl] at hs
  unfold del
  generalize lo n l = a at *
  generalize Go.Proofs.Ytafippjpaakonaa.hi n l = b at *
  subst hs
  simp [List.drop_append]
theorem look_place {l : List Ls} (h : Asc l) {n : Int} {x : Ls} (hl : look n l = some x) : (lo n l).length < l.length ∧ l.getD (lo n l).length Ls.zero = x := by
  have hlen := h.len n
  rw [hl] at hlen
  simp at hlen
  have hk : (lo n l).length < l.length := by omega
  exact ⟨hk, (at_place h n hk).2 x hl⟩
theorem ins_len {l : List Ls} (h : Asc l) {n : Int} {x y : Ls} (hl : look n l = some x) (hy : y.name = n) : (ins y l).length = l.length := by rw [← set_ins h hl hy, List.length_set]
theorem ins_len0 {l : List Ls} (h : Asc l) {n : Int} {y : Ls} (hl : look n l = none) (hy : y.name = n) : (ins y l).length = l.length + 1 := by
  rw [← insert_ins h hl hy]
  have := h.len n
  simp
  omega
theorem AF.fin {w wr : World} {next : Int} {sv a0 a1 t0 e0 : Value} (h : AF w wr next sv [a0, a1] t0 e0) (x y t e : Value) :
    AF w ((((wr.setCell ⟨w.heap.size + 1, 0, none⟩ x).setCell ⟨w.heap.size + 1, 1, none⟩ y).setCell ⟨w.heap.size + 1 + 1, 0, none⟩ t).setCell ⟨w.heap.size + 1 + 1 + 1, 0, none⟩ e) next sv [x, y] t e ∧
    ∀ {v : Value} {n : Nat} {xs : List Value}, Own wr 38 4 v n xs → Own ((((wr.setCell ⟨w.heap.size + 1, 0, none⟩ x).setCell ⟨w.heap.size + 1, 1, none⟩ y).setCell ⟨w.heap.size + 1 + 1, 0, none⟩ t).setCell ⟨w.heap.size + 1 + 1 + 1, 0, none⟩ e) 38 4 v n xs := by
  have f1 := h.s1 (A' := [x, a1]) (grown_setCell wr ⟨w.heap.size + 1, 0, none⟩ x) (by simpa using heap_setCell_same wr (w.heap.size + 1) 0 _ 24 x h.b1)
  have f2 := f1.s1 (A' := [x, y]) (grown_setCell _ ⟨w.heap.size + 1, 1, none⟩ y) (by simpa using heap_setCell_same _ (w.heap.size + 1) 1 _ 24 y f1.b1)
  have f3 := f2.s2 (tok' := t) (grown_setCell _ ⟨w.heap.size + 1 + 1, 0, none⟩ t) (by simpa using heap_setCell_same _ (w.heap.size + 1 + 1) 0 _ 3 t f2.b2)
  have f4 := f3.s3 (er' := e) (grown_setCell _ ⟨w.heap.size + 1 + 1 + 1, 0, none⟩ e) (by simpa using heap_setCell_same _ (w.heap.size + 1 + 1 + 1) 0 _ 26 e f3.b3)
  refine ⟨f4, fun ho => ?_⟩
  have o1 := Own.past ho (grown_setCell wr ⟨w.heap.size + 1, 0, none⟩ x) h.b1 (by decide)
  have o2 := Own.past o1 (grown_setCell _ ⟨w.heap.size + 1, 1, none⟩ y) f1.b1 (by decide)
  have o3 := Own.past o2 (grown_setCell _ ⟨w.heap.size + 1 + 1, 0, none⟩ t) f2.b2 (by decide)
  exact Own.past o3 (grown_setCell _ ⟨w.heap.size + 1 + 1 + 1, 0, none⟩ e) f3.b3 (by decide)
set_option maxRecDepth 100000 in
set_option maxHeartbeats 2000000 in
theorem acquire_bad (t : Tb) (n h now d : Int) (s : Value) (w : World) (hR : Rd w s t.ls) (hn : t.ls.length ≤ 1000000) (hbad : t.ok = false ∨ timely now d = false) :
    Calls Try.prog 11 #[tval t.next s, .int .i64 n, .int .i64 h, .int .i64 now, .int .i64 d] w (AcqPost (acq cds t n h now d) w) := by
  obtain ⟨next, l⟩ := t
  simp only at hR hn ⊢
  obtain ⟨ao, cap, rfl, hc1, hc2⟩ := Sl.shape hR
  have HR := hid hR
  obtain ⟨r, hr⟩ : ∃ r, r = acq cds ⟨next, l⟩ n h now d := ⟨_, rfl⟩
  rw [← hr]
  have HRR := hid hr
  clear hR hr
  unfold tval
  obtain ⟨W, hW⟩ : ∃ W, W = (((w.alloc (.cells #[.int .i64 next, .slice ao l.length cap] 24)).alloc (.cells #[.int .i64 0, .slice none 0 0] 24)).alloc (.cells #[.int .i64 0] 3)).alloc (.cells #[.int .i64 0] 26) := ⟨_, rfl⟩
  have F0 := hid (show AF w W next (.slice ao l.length cap) [.int .i64 0, .slice none 0 0] (.int .i64 0) (.int .i64 0) from by
    rw [hW]
    exact ⟨grown_trans (grown_trans (grown_trans (World.grownBy_alloc _ _ _) (World.grownBy_alloc _ _ _)) (World.grownBy_alloc _ _ _)) (World.grownBy_alloc _ _ _),
      by rw [heap_past (by simp <;> omega), heap_past (by simp <;> omega), heap_past (by simp <;> omega), heap_at rfl],
      by rw [heap_past (by simp <;> omega), heap_past (by simp <;> omega), heap_at (by simp <;> omega)],
      by rw [heap_past (by simp <;> omega), heap_at (by simp <;> omega)],
      by rw [heap_at (by simp <;> omega)]⟩)
  have HWW := hid hW
  clear hW
  have hmf : ∀ (fn : Fn) (first cap : Array Value) (w : World), (Instr.makeFunc fn first cap).run Try.prog w = .ok (.func fn first cap) w := fun _ _ _ _ => rfl
  go_enter_defers Try.func11, Try.ntmps11
  go_wp2_with fail
  rw [← HWW.out]
  refine (valid_walk l next _ W (Sl.kn HR.out F0.out.g) (by omega)).mono ?_
  rintro e w1 ⟨rfl, g1⟩
  have F1 := hid (F0.out.call g1)
  clear g1 hmf HWW
  cases hok : Tb.ok ⟨next, l⟩ with
  | false =>
    have hr : r = (.zero, 0, 1) := HRR.out.trans (acq_inv1 hok)
    have HE := hid hr
    clear hr
    go_wp2_with (first
      | (refine wpList_storeTYg rfl 24 (.tmp 10) (.tmp 30) rfl rfl rfl (tyT 0 none 0 0) F1.out.b1 rfl ?_; intro w5 g5 h5; have E1 := hid (F1.out.s1 g5 h5); clear g5 h5)
      | (refine wpList_storeTYg rfl 3 (.tmp 11) (.const (.int .i64 0)) rfl rfl rfl (tyI 0) E1.out.b2 rfl ?_; intro w6 g6 h6; have E2 := hid (E1.out.s2 g6 h6); clear g6 h6)
      | (refine wpList_storeTYg rfl 26 (.tmp 12) (.const (.int .i64 1)) rfl rfl rfl (tyE 1) E2.out.b3 rfl ?_; intro w7 g7 h7; have E3 := hid (E2.out.s3 g7 h7); clear g7 h7)
      | fail)
    refine leaves_cons (f := 24) (args := #[.pointer (some ⟨w.heap.size + 1, 0, none⟩), .pointer (some ⟨w.heap.size + 1 + 1, 0, none⟩), .pointer (some ⟨w.heap.size + 1 + 1 + 1, 0, none⟩)]) (by simp) (by simp [go_sem]) ?_
    refine (recAcq_walk _ _ _ _).mono ?_
    rintro e u' w'' ⟨rfl, rfl, rfl⟩
    exact ⟨_, results3 rfl rfl rfl rfl (tyT _ _ _ _) (tyI _) (tyE _) E3.out.b1 E3.out.b2 E3.out.b3, by rw [HE.out]; exact ⟨.slice none 0 0, rfl, Sl.nil _ _, E3.out.g⟩⟩
  | true =>
    have hA := ((Tb.ok_iff _).1 hok).2.1
    have hB := ((Tb.ok_iff _).1 hok).1
    simp only at hA hB
    have HOK := hid hok
    have HA := hid hA
    have HBB := hid hB
    clear hA hB hok
    go_wp2_with fail
    refine (validTime_walk now _).mono ?_
    rintro e w' ⟨rfl, rfl⟩
    cases hvt : vT now with
    | false =>
      have HVT := hid hvt
      clear hvt
      have hr : r = (.zero, 0, 1) := HRR.out.trans (acq_inv2 (by rw [timely_eq, HVT.out]; rfl))
      have HE := hid hr
      clear hr
      go_wp2_with (first
        | (refine wpList_storeTYg rfl 24 (.tmp 10) (.tmp 30) rfl rfl rfl (tyT 0 none 0 0) F1.out.b1 rfl ?_; intro w5 g5 h5; have E1 := hid (F1.out.s1 g5 h5); clear g5 h5)
        | (refine wpList_storeTYg rfl 3 (.tmp 11) (.const (.int .i64 0)) rfl rfl rfl (tyI 0) E1.out.b2 rfl ?_; intro w6 g6 h6; have E2 := hid (E1.out.s2 g6 h6); clear g6 h6)
        | (refine wpList_storeTYg rfl 26 (.tmp 12) (.const (.int .i64 1)) rfl rfl rfl (tyE 1) E2.out.b3 rfl ?_; intro w7 g7 h7; have E3 := hid (E2.out.s3 g7 h7); clear g7 h7)
        | fail)
      refine leaves_cons (f := 24) (args := #[.pointer (some ⟨w.heap.size + 1, 0, none⟩), .pointer (some ⟨w.heap.size + 1 + 1, 0, none⟩), .pointer (some ⟨w.heap.size + 1 + 1 + 1, 0, none⟩)]) (by simp) (by simp [go_sem]) ?_
      refine (recAcq_walk _ _ _ _).mono ?_
      rintro e u' w'' ⟨rfl, rfl, rfl⟩
      exact ⟨_, results3 rfl rfl rfl rfl (tyT _ _ _ _) (tyI _) (tyE _) E3.out.b1 E3.out.b2 E3.out.b3, by rw [HE.out]; exact ⟨.slice none 0 0, rfl, Sl.nil _ _, E3.out.g⟩⟩
    | true =>
      have HVT := hid hvt
      clear hvt
      go_wp2_with fail
      refine (validDuration_walk d _).mono ?_
      rintro e w' ⟨rfl, rfl⟩
      cases hvd : vD d with
      | false =>
        have HVD := hid hvd
        clear hvd
        have hr : r = (.zero, 0, 1) := HRR.out.trans (acq_inv2 (by rw [timely_eq, HVT.out, HVD.out]; rfl))
        have HE := hid hr
        clear hr
        go_wp2_with (first
          | (refine wpList_storeTYg rfl 24 (.tmp 10) (.tmp 30) rfl rfl rfl (tyT 0 none 0 0) F1.out.b1 rfl ?_; intro w5 g5 h5; have E1 := hid (F1.out.s1 g5 h5); clear g5 h5)
          | (refine wpList_storeTYg rfl 3 (.tmp 11) (.const (.int .i64 0)) rfl rfl rfl (tyI 0) E1.out.b2 rfl ?_; intro w6 g6 h6; have E2 := hid (E1.out.s2 g6 h6); clear g6 h6)
          | (refine wpList_storeTYg rfl 26 (.tmp 12) (.const (.int .i64 1)) rfl rfl rfl (tyE 1) E2.out.b3 rfl ?_; intro w7 g7 h7; have E3 := hid (E2.out.s3 g7 h7); clear g7 h7)
          | fail)
        refine leaves_cons (f := 24) (args := #[.pointer (some ⟨w.heap.size + 1, 0, none⟩), .pointer (some ⟨w.heap.size + 1 + 1, 0, none⟩), .pointer (some ⟨w.heap.size + 1 + 1 + 1, 0, none⟩)]) (by simp) (by simp [go_sem]) ?_
        refine (recAcq_walk _ _ _ _).mono ?_
        rintro e u' w'' ⟨rfl, rfl, rfl⟩
        exact ⟨_, results3 rfl rfl rfl rfl (tyT _ _ _ _) (tyI _) (tyE _) E3.out.b1 E3.out.b2 E3.out.b3, by rw [HE.out]; exact ⟨.slice none 0 0, rfl, Sl.nil _ _, E3.out.g⟩⟩
      | true =>
        exfalso
        rcases hbad with hbad | hbad
        · rw [HOK.out] at hbad; cases hbad
        · rw [timely_eq, HVT.out, hvd] at hbad; cases hbad
end Go.Proofs.Ytafippjpaakonaa
