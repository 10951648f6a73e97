/- Leases: words for the reference's operations. -/
import Derived.Test.YtafippjpaakonaaW19
import Derived.Test.YtafippjpaakonaaW12
namespace Go.Proofs.Ytafippjpaakonaa
open Go.RowKit
set_option linter.unusedSimpArgs false
set_option linter.unusedVariables false

theorem resC2 {P : Program} {fn : Func} {p q r : Tmp} {T : TypeId} (h : fn.results = #[.cell p T, .tmp q, .tmp r]) {tmps : Array Value} {w : World} {b0 : Nat} {c0 : List Value} {v0 v1 v2 : Value} {fr0 : Nat × Nat} {u0 : TypeId}
    (hp : tmps.getD p undef = ptr b0) (hq : tmps.getD q undef = v1) (hr : tmps.getD r undef = v2) (t0 : TY P T c0 v0) (h0 : w.heap[b0]? = some (.cells c0.toArray u0 fr0)) :
    (results fn tmps).run P w = .ok (.tuple #[v0, v1, v2]) w := by
  have e0 := t0.load w b0 0 (rangeAt_row h0)
  have hp' : tmps[p]?.getD undef = .pointer (some ⟨b0, 0, none⟩) := by simpa [ptr] using hp
  have hq' : tmps[q]?.getD undef = v1 := by simpa using hq
  have hr' : tmps[r]?.getD undef = v2 := by simpa using hr
  simp [results, h, hp', hq', hr', asAddr, e0]
theorem resC1 {P : Program} {fn : Func} {p q : Tmp} {T : TypeId} (h : fn.results = #[.cell p T, .tmp q]) {tmps : Array Value} {w : World} {b0 : Nat} {c0 : List Value} {v0 v1 : Value} {fr0 : Nat × Nat} {u0 : TypeId}
    (hp : tmps.getD p undef = ptr b0) (hq : tmps.getD q undef = v1) (t0 : TY P T c0 v0) (h0 : w.heap[b0]? = some (.cells c0.toArray u0 fr0)) :
    (results fn tmps).run P w = .ok (.tuple #[v0, v1]) w := by
  have e0 := t0.load w b0 0 (rangeAt_row h0)
  have hp' : tmps[p]?.getD undef = .pointer (some ⟨b0, 0, none⟩) := by simpa [ptr] using hp
  have hq' : tmps[q]?.getD undef = v1 := by simpa using hq
  simp [results, h, hp', hq', asAddr, e0]
/-- the blocks of an operation of the reference -/
structure RF (T1 : TypeId) (w wr : World) (next : Int) (sv : Value) (A : List Value) : Prop where
  g : w.grownBy wr none
  b0 : wr.heap[w.heap.size]? = some (.cells #[.int .i64 next, sv] 24 (0, 0))
  b1 : wr.heap[w.heap.size + 1]? = some (.cells A.toArray T1 (0, 0))
section
variable {T1 : TypeId} {w wr w' : World} {next : Int} {sv : Value} {A : List Value}
theorem RF.start (w : World) (next : Int) (sv : Value) (A : List Value) (T1 : TypeId) : RF T1 w ((w.alloc (.cells #[.int .i64 next, sv] 24)).alloc (.cells A.toArray T1)) next sv A :=
  ⟨grown_trans (World.grownBy_alloc _ _ _) (World.grownBy_alloc _ _ _),
   by rw [heap_past (by simp <;> omega), heap_at rfl],
   by rw [heap_at (by simp <;> omega)]⟩
theorem RF.call (h : RF T1 w wr next sv A) (g : wr.grownBy w' none) : RF T1 w w' next sv A :=
  ⟨grown_trans h.g g, row_of g h.b0 (by simp), row_of g h.b1 (by simp)⟩
theorem RF.s1 {A' : List Value} (h : RF T1 w wr next sv A) (g : wr.grownBy w' (some (w.heap.size + 1))) (hb : w'.heap[w.heap.size + 1]? = some (.cells A'.toArray T1 (0, 0))) : RF T1 w w' next sv A' :=
  ⟨grown_newR h.g g (by omega), row_of g h.b0 (by simp), hb⟩
/-- the two cells of a table are stored -/
theorem RF.fin {a0 a1 : Value} (h : RF 24 w wr next sv [a0, a1]) (x y : Value) :
    RF 24 w ((wr.setCell ⟨w.heap.size + 1, 0, none⟩ x).setCell ⟨w.heap.size + 1, 1, none⟩ y) next sv [x, y] ∧
    wr.grownBy ((wr.setCell ⟨w.heap.size + 1, 0, none⟩ x).setCell ⟨w.heap.size + 1, 1, none⟩ y) (some (w.heap.size + 1)) := by
  have f1 := h.s1 (A' := [x, a1]) (grown_setCell wr ⟨w.heap.size + 1, 0, none⟩ x) (by simpa using heap_setCell_same wr (w.heap.size + 1) 0 _ 24 x h.b1)
  have f2 := f1.s1 (A' := [x, y]) (grown_setCell _ ⟨w.heap.size + 1, 1, none⟩ y) (by simpa using heap_setCell_same _ (w.heap.size + 1) 1 _ 24 y f1.b1)
  exact ⟨f2, grown_trans (grown_setCell wr ⟨w.heap.size + 1, 0, none⟩ x) (grown_setCell _ ⟨w.heap.size + 1, 1, none⟩ y)⟩
end
theorem acq_full {c : Codes} {t : Tb} {n h now d : Int} (h1 : t.ok = true) (h2 : timely now d = true) (h3 : ∀ x, look n t.ls = some x → ¬ now < x.till) (h5 : (look n t.ls = none ∧ 64 ≤ t.ls.length) ∨ t.next = Top) : acq c t n h now d = (.zero, 0, c.full) := by
  cases hk : look n t.ls with
  | none => exact acq_full2 h1 h2 hk (h5.imp (fun h => h.2) id)
  | some x => exact acq_full1 h1 h2 hk (h3 x hk) (by rcases h5 with h | h; rw [hk] at h; cases h.1; exact h)
theorem acq_ok {c : Codes} {t : Tb} {n h now d : Int} (h1 : t.ok = true) (h2 : timely now d = true) (h3 : ∀ x, look n t.ls = some x → ¬ now < x.till) (h4 : look n t.ls = none → ¬ 64 ≤ t.ls.length) (h5 : ¬ t.next = Top) : acq c t n h now d = (⟨t.next + 1, ins ⟨n, h, t.next, now + d⟩ t.ls⟩, t.next, 0) := by
  cases hk : look n t.ls with
  | none => exact acq_ok2 h1 h2 hk (by rintro (h | h); exact h4 hk h; exact h5 h)
  | some x => exact acq_ok1 h1 h2 hk (h3 x hk) h5
theorem timely_range {a b : Int} (h : timely a b = true) : -1099511627776 ≤ a ∧ a ≤ 1099511627776 ∧ 1 ≤ b ∧ b ≤ 1099511627776 := by
  unfold timely Top at h
  simp only [Bool.and_eq_true, decide_eq_true_eq] at h
  exact ⟨h.1.1.1, h.1.1.2, h.1.2, h.2⟩
theorem enterPut : ∀ (av : Array Value) (w : World), ((Deferred.ofValue (.func (.func 50) #[] #[]) av).run Try.prog w).andThen (fun a w' => (invoke a.target a.args).run Try.prog w') = .ok (.enter 50 av) w := enter_of Try.func50 (by kernel_rfl) rfl
/-- put, as a step of a region uses it -/
theorem put_call {next : Int} {l : List Ls} {x : Ls} {nx : Int} {s : Value} {w0 w : World} (hR : Rd w0 s l) (hg : w0.grownBy w none) (hn : l.length ≤ 1000000) (hA : Asc l) :
    Calls Try.prog 50 #[tval next s, lval x, .int .i64 nx] w fun e w' => ∃ ao n cap, e = .returned (.agg #[.int .i64 nx, .slice ao n cap]) ∧ Hid (Rd w' (.slice ao n cap) (ins x l) ∧ w0.grownBy w' none) := by
  refine (put_walk ⟨next, l⟩ x nx s w (Sl.kn hR hg) hn hA).mono ?_
  rintro e w' ⟨s', rfl, ho, hf⟩
  obtain ⟨ao, cap, rfl, _, _⟩ := Sl.shape ho
  exact ⟨ao, _, cap, rfl, ho, grown_trans hg hf⟩
/-- leases do not lie in a block of fewer than four cells -/
theorem rd_kept {w w' : World} {s : Value} {b : Nat} {l : List Ls} {A : List Value} {T : TypeId} (h : Rd w s l) (hb : w.heap[b]? = some (.cells A.toArray T (0, 0))) (hA : A.length < 4) (hg : w.grownBy w' (some b)) : Rd w' s l := by
  cases l with
  | nil =>
    obtain ⟨hl, ao, cap, rfl, h1, h2, h3, h4⟩ := h
    refine ⟨hl, ao, cap, rfl, h1, h2, h3, fun ad had => ⟨(h4 ad had).1, fun j u hj => ?_⟩⟩
    simp at hj
  | cons x l =>
    obtain ⟨ao, cap, rfl, _, _⟩ := Sl.shape h
    obtain ⟨b', off, rfl⟩ := Rd.base h (by simp)
    refine Sl.kept h hg (.inr fun e => ?_)
    simp only [Value.ownBlock, Option.some.injEq] at e
    subst e
    have d3 := (Rd.four h 0 (by simp)).2.2.2
    rw [cellsAt hb] at d3
    have := (List.getElem?_eq_some_iff.1 d3).1
    omega
theorem fin_acq {w wr : World} {next : Int} {sv : Value} {fn : Func} {a : Act} {r : Tb × Int × Int} {ao : Option Addr} {n cap : Nat} {a0 a1 : Value} (h : RF 24 w wr next sv [a0, a1]) (ho : Rd wr (.slice ao n cap) r.1.ls)
    (hf : fn.results = #[.cell 10 24, .tmp 11, .tmp 12]) (ha : a.tmps.getD 10 undef = ptr (w.heap.size + 1)) (h1 : a.tmps.getD 11 undef = .int .i64 r.2.1) (h2 : a.tmps.getD 12 undef = .int .i64 r.2.2) (hd : a.defers = []) :
    bodyPost Try.prog fn (AcqPost r w) .ret a ((wr.setCell ⟨w.heap.size + 1, 0, none⟩ (.int .i64 r.1.next)).setCell ⟨w.heap.size + 1, 1, none⟩ (.slice ao n cap)) := by
  obtain ⟨f, g⟩ := h.fin (.int .i64 r.1.next) (.slice ao n cap)
  exact bodyPost_ret (resC2 hf ha h1 h2 (tyT _ _ _ _) f.b1) hd ⟨_, rfl, rd_kept ho h.b1 (by simp) g, f.g⟩
theorem fin_te {w wr : World} {next : Int} {sv : Value} {fn : Func} {a : Act} {r : Tb × Int} {ao : Option Addr} {p q : Tmp} {n cap : Nat} {a0 a1 : Value} (h : RF 24 w wr next sv [a0, a1]) (ho : Rd wr (.slice ao n cap) r.1.ls)
    (hf : fn.results = #[.cell p 24, .tmp q]) (ha : a.tmps.getD p undef = ptr (w.heap.size + 1)) (h1 : a.tmps.getD q undef = .int .i64 r.2) (hd : a.defers = []) :
    bodyPost Try.prog fn (TePost r w) .ret a ((wr.setCell ⟨w.heap.size + 1, 0, none⟩ (.int .i64 r.1.next)).setCell ⟨w.heap.size + 1, 1, none⟩ (.slice ao n cap)) := by
  obtain ⟨f, g⟩ := h.fin (.int .i64 r.1.next) (.slice ao n cap)
  exact bodyPost_ret (resC1 hf ha h1 (tyT _ _ _ _) f.b1) hd ⟨_, rfl, rd_kept ho h.b1 (by simp) g, f.g⟩
theorem filter_del {l : List Ls} (h : Asc l) (n : Int) : l.filter (other n) = del n l := h.without n
end Go.Proofs.Ytafippjpaakonaa
