/- Key trees: more obligations; a puncture in a region that draws. -/
import Derived.Test.YteakoleceoclkaaK21
namespace Go.Proofs.Yteakoleceoclkaa
open Go.RowKit Go.Shelf
set_option linter.unusedSimpArgs false
set_option linter.unusedVariables false

section
variable {P : Program} {ops : Array Oper} {L : List Sp} {n : Nat} {w0 : World} {o : Oper}
theorem ob_index {ty : TypeId} {x y : Operand} {d : Nat} {p k v : Value} (ho : o.op = .indexAddr ty x y) (hd : o.dst = some d) (hg : GOK ops L n o.guard) (hx : OpdIs L n x p) (hy : OpdIs L n y k) (hrun : ∀ w, (Instr.indexAt ty p k).run P w = .ok v w) (hv : ∀ w, At L d w v) : Ob P ops L n w0 o := by
  refine ob_run hg fun a w hw hl hsz => ⟨v, ?_, fun d' hd' => ?_⟩
  · have e1 := hx.eval (o := o) (by simp [ho, Op.operands]) hl
    have e2 := hy.eval (o := o) (by simp [ho, Op.operands]) hl
    simp only [execOp, ho, e1, e2, Sem.run_bind, Sem.run_pure, Result.andThen_ok, hrun w]
  · rw [hd] at hd'
    obtain rfl := Option.some.inj hd'
    exact hv w
theorem run_extract {a : Act} {s i : Nat} {vs : Array Value} {v : Value} (ho : o.op = .extract (.tmp s) i) (hx : a.tmps.getD s undef = .tuple vs) (hi : vs[i]? = some v) (w : World) : (execOp a.eval o).run P w = .ok (.value v) w := by
  have hx' : a.eval (.tmp s) = .tuple vs := hx
  simp only [execOp, ho, hx']
  simp [Instr.extract, hi]
/-- one of the values that a call returned -/
theorem ob_extract {s i d : Nat} (ho : o.op = .extract (.tmp s) i) (hd : o.dst = some d) (hs : s < n) (hg : GOK ops L n o.guard) (h : ∀ w u, At L s w u → ∃ vs v, u = .tuple vs ∧ vs[i]? = some v ∧ At L d w v) : Ob P ops L n w0 o := by
  refine ob_run hg fun a w hw hl hsz => ?_
  obtain ⟨vs, v, h1, h2, h3⟩ := h w _ (hl s (by simp [Oper.looksAt, ho, Op.operands]) hs)
  refine ⟨v, run_extract ho h1 h2 w, fun d' hd' => ?_⟩
  rw [hd] at hd'
  obtain rfl := Option.some.inj hd'
  exact h3
theorem pu_extract {s i d : Nat} {a : Act} {w : World} (ho : o.op = .extract (.tmp s) i) (hd : o.dst = some d) (hs : s < n) (hg : o.guard = none) (hl : ∀ t ∈ o.looksAt ops, t < n → At L t w (a.tmps.getD t undef)) (h : ∀ w u, At L s w u → ∃ vs v, u = .tuple vs ∧ vs[i]? = some v ∧ At L d w v) :
    ∃ v, Yields P ops o v a ∧ ∀ d, o.dst = some d → At L d w v := by
  obtain ⟨vs, v, h1, h2, h3⟩ := h w _ (hl s (by simp [Oper.looksAt, ho, Op.operands]) hs)
  refine pu_run (n := n) hg (v := v) (fun w' => run_extract ho h1 h2 w') fun d' hd' => ?_
  rw [hd] at hd'
  obtain rfl := Option.some.inj hd'
  exact h3
end
/-- what Puncture returned -/
def Sp.punc (r : List Nd × Int) : Sp := ⟨fun w v => ∃ ao cap, v = .tuple #[.agg #[.slice ao r.1.length cap], .int .i64 r.2] ∧ RdT w (.slice ao r.1.length cap) r.1, fun _ _ _ hg ⟨ao, cap, h1, h2⟩ => ⟨ao, cap, h1, h2.kn hg⟩⟩
/-- its tree -/
def Sp.tree (r : List Nd × Int) : Sp := ⟨fun w v => ∃ ao cap, v = .agg #[.slice ao r.1.length cap] ∧ RdT w (.slice ao r.1.length cap) r.1, fun _ _ _ hg ⟨ao, cap, h1, h2⟩ => ⟨ao, cap, h1, h2.kn hg⟩⟩
theorem punc_tree {r : List Nd × Int} (w : World) (u : Value) (h : (Sp.punc r).on w u) : ∃ vs v, u = .tuple vs ∧ vs[0]? = some v ∧ (Sp.tree r).on w v := by
  obtain ⟨ao, cap, h1, h2⟩ := h
  exact ⟨_, _, h1, rfl, ao, cap, rfl, h2⟩
theorem punc_err {r : List Nd × Int} (w : World) (u : Value) (h : (Sp.punc r).on w u) : ∃ vs v, u = .tuple vs ∧ vs[1]? = some v ∧ (Sp.is (.int .i64 r.2)).on w v := by
  obtain ⟨ao, cap, h1, h2⟩ := h
  exact ⟨_, _, h1, rfl, rfl⟩
theorem punct_on {w0 : World} {s : Value} {l : List Nd} {a : Int} {r : List Nd × Int} (hr : punOf l a = r) (h : RdT w0 s l) : ∀ W, w0.grownBy W none → Calls Try.prog 24 #[.agg #[s], .int .i64 a] W fun e W' => ∃ v, e = .returned v ∧ W.grownBy W' none ∧ (Sp.punc r).on W' v := fun W hW =>
  (punct_call hr (h.kn hW)).mono fun e W' ⟨ao, cap, h1, h2, h3⟩ => ⟨_, h1, h3, ao, cap, rfl, h2⟩
theorem rpunct_on {w0 : World} {s : Value} {l : List Nd} {a : Int} {r : List Nd × Int} (hr : punOf l a = r) (h : RdT w0 s l) : ∀ W, w0.grownBy W none → Calls Try.prog 25 #[.agg #[s], .int .i64 a] W fun e W' => ∃ v, e = .returned v ∧ W.grownBy W' none ∧ (Sp.punc r).on W' v := fun W hW =>
  (rpunct_call hr (h.kn hW)).mono fun e W' ⟨ao, cap, h1, h2, h3⟩ => ⟨_, h1, h3, ao, cap, rfl, h2⟩
theorem tcells_int {l : List Nd} : ∀ u ∈ tcells l, ∃ k x, u = .int k x := by
  intro u hu
  unfold tcells at hu
  obtain ⟨n, _, hu⟩ := List.mem_flatMap.1 hu
  unfold ncells at hu
  rcases List.mem_cons.1 hu with rfl | hu
  · exact ⟨_, _, rfl⟩
  rcases List.mem_cons.1 hu with rfl | hu
  · exact ⟨_, _, rfl⟩
  unfold bv at hu
  obtain ⟨x, _, rfl⟩ := List.mem_map.1 hu
  exact ⟨_, _, rfl⟩
/-- a variable of one cell that holds no number lies apart from what a tree reads -/
theorem RdT.aside {w w' : World} {s v : Value} {l : List Nd} {A : Nat} {T : TypeId} {fr : Nat × Nat} (h : RdT w s l) (hA : w.heap[A]? = some (.cells #[v] T fr)) (hv : ∀ k x, v ≠ .int k x) (g : w.grownBy w' (some A)) : RdT w' s l := by
  obtain ⟨⟨hlen, ao, cap, rfl, h1, h2, h3, h4⟩, h5, h6, h7⟩ := h
  refine ⟨⟨hlen, ao, cap, rfl, h1, h2, h3, fun ad had => ⟨(h4 ad had).1, fun j u hj => ?_⟩⟩, h5, fun k hk => Nat.lt_of_lt_of_le (h6 k hk) g.size, h7⟩
  have hc := (h4 ad had).2 j u hj
  by_cases hb : ad.block = A
  · exfalso
    rw [hb, cell_of_row _ _ _ _ _ _ hA] at hc
    obtain ⟨k, x, rfl⟩ := tcells_int u (List.mem_of_getElem? hj)
    have h0 := (Array.getElem?_eq_some_iff.1 hc).1
    simp at h0
    have hc0 : (#[v] : Array Value)[0]? = some (.int k x) := by rw [← hc]; congr 1; omega
    simp at hc0
    exact hv _ _ hc0
  · exact g.cell hc (by simpa using hb)
end Go.Proofs.Yteakoleceoclkaa
