/- Key trees: digests, nodes and intervals compared. -/
import Derived.Test.YteakoleceoclkaaK17
import Derived.DeepKeys
namespace Go.Proofs.Yteakoleceoclkaa
open Go.RowKit
set_option linter.unusedSimpArgs false
set_option linter.unusedVariables false

theorem mapM_some' {α β : Type} {f : α → Option β} {g : α → β} : ∀ {l : List α}, (∀ x ∈ l, f x = some (g x)) → l.mapM f = some (l.map g) := by
  intro l
  induction l with
  | nil => intro _; rfl
  | cons x l ih =>
    intro h
    rw [List.mapM_cons, h x (List.mem_cons.2 (.inl rfl)), ih fun y hy => h y (List.mem_cons.2 (.inr hy))]
    rfl
def lbv (l : List Nat) : List Lit := l.map fun x : Nat => .int .u8 (x : Int)
theorem lbv_inj {l m : List Nat} : lbv l = lbv m ↔ l = m := by
  refine ⟨fun h => ?_, fun h => by rw [h]⟩
  unfold lbv at h
  exact (List.map_inj_right (fun a b hab => by
    injection hab with _ h2
    exact Int.ofNat.inj h2)).1 h
theorem cells5' : Try.prog.cellsOf 5 = 1 := by kernel_rfl
theorem cellsD : Try.prog.cellsOf 29 = 32 := by kernel_rfl
theorem cellsI : Try.prog.cellsOf 3 = 1 := by kernel_rfl
theorem cellsI6 : Try.prog.cellsOf 2 = 1 := by kernel_rfl
theorem cellsNd : Try.prog.cellsOf 91 = 34 := by kernel_rfl
theorem lits_u8 (d : Nat) (x : Nat) (h : x < 256) : Try.prog.keyLits (d + 1) 5 [.int .u8 (x : Int)] = some [.int .u8 (x : Int)] := by
  unfold Program.keyLits
  rw [Try.underlying5]
  simp [Lit.wf, IntKind.min, IntKind.max, IntKind.signed, IntKind.bits]
  omega
theorem lits_bv (d : Nat) (l : List Nat) (h : Dg l) : Try.prog.keyLits (d + 2) 29 (bv l) = some (lbv l) := by
  unfold Program.keyLits
  rw [Try.underlying29]
  simp only
  rw [if_pos (by rw [bv_length, h.1, cellsD])]
  have hm : ∀ i ∈ List.range 32, Try.prog.keyLits (d + 1) 5 (((bv l).drop (i * Try.prog.cellsOf 5)).take (Try.prog.cellsOf 5)) = some [.int .u8 ((l.getD i 0 : Nat) : Int)] := fun i hi => by
    have hil : i < l.length := by rw [h.1]; exact List.mem_range.1 hi
    rw [cells5', Nat.mul_one]
    have e : ((bv l).drop i).take 1 = [.int .u8 ((l[i] : Nat) : Int)] := by
      unfold bv
      rw [List.drop_eq_getElem_cons (by rw [List.length_map]; exact hil), List.take_succ_cons, List.take_zero, List.getElem_map]
    rw [e, lits_u8 d _ (h.2 _ (List.getElem_mem hil)), List.getD_eq_getElem?_getD, List.getElem?_eq_getElem hil]
    rfl
  rw [mapM_some' hm]
  obtain ⟨x0, x1, x2, x3, x4, x5, x6, x7, x8, x9, x10, x11, x12, x13, x14, x15, x16, x17, x18, x19, x20, x21, x22, x23, x24, x25, x26, x27, x28, x29, x30, x31, rfl⟩ := list32 l h.1
  rfl
theorem lits_i (d : Nat) (x : Int) (h : -9223372036854775808 ≤ x ∧ x ≤ 9223372036854775807) : Try.prog.keyLits (d + 1) 3 [.int .i64 x] = some [.int .i64 x] := by
  unfold Program.keyLits
  rw [Try.underlying3]
  simp [Lit.wf, IntKind.min, IntKind.max, IntKind.signed, IntKind.bits]
  omega
theorem lits_i6 (d : Nat) (x : Int) (h : -9223372036854775808 ≤ x ∧ x ≤ 9223372036854775807) : Try.prog.keyLits (d + 1) 2 [.int .i64 x] = some [.int .i64 x] := by
  unfold Program.keyLits
  rw [Try.underlying2]
  simp [Lit.wf, IntKind.min, IntKind.max, IntKind.signed, IntKind.bits]
  omega
theorem lits_nd (d : Nat) (n : Nd) (h : Nok n) : Try.prog.keyLits (d + 3) 91 (ncells n) = some (.int .i64 n.d :: .int .i64 n.p :: lbv n.k) := by
  unfold Program.keyLits
  rw [Try.underlying91]
  simp only
  rw [if_pos ⟨by rw [ncells_len _ h.1.1, cellsNd], by kernel_rfl⟩]
  have e0 : ((ncells n).drop 0).take 1 = [.int .i64 n.d] := rfl
  have e1 : ((ncells n).drop 1).take 1 = [.int .i64 n.p] := rfl
  have e2 : ((ncells n).drop 2).take 32 = bv n.k := by
    unfold ncells
    simp only [List.drop_succ_cons, List.drop_zero]
    exact List.take_of_length_le (by rw [bv_length, h.1.1]; exact Nat.le_refl _)
  simp only [List.mapM_cons, List.mapM_nil, cellsI, cellsI6, cellsD, e0, e1, e2, lits_i (d + 1) n.d h.2.1, lits_i6 (d + 1) n.p h.2.2, lits_bv d n.k h.1]
  simp
theorem deepEq (T : TypeId) (m : Nat) (hm : m ≤ 10000) (hk : Try.prog.keyTypeAt m T = true) (hg : Try.prog.eqGuardType Try.prog.depth T = false) {xs ys : List Value} {D : Nat} {la lb : List Lit}
    (fx : (Value.agg xs.toArray).formed Try.prog T = true) (fy : (Value.agg ys.toArray).formed Try.prog T = true) (hx : Try.prog.keyLits D T xs = some la) (hy : Try.prog.keyLits D T ys = some lb) {r : Bool} (hr : r = true ↔ la = lb) (px py : Operand) (w : World) :
    (do eqGuard .eql T px py (.agg xs.toArray) (.agg ys.toArray); binOp .eql T (.agg xs.toArray) (.agg ys.toArray) : Sem Value).run Try.prog w = .ok (.bool r) w ∧
    (do eqGuard .neq T px py (.agg xs.toArray) (.agg ys.toArray); binOp .neq T (.agg xs.toArray) (.agg ys.toArray) : Sem Value).run Try.prog w = .ok (.bool (!r)) w := by
  obtain ⟨b, hb, hiff⟩ := run_equalIn_deep (P := Try.prog) (10000 - m) m T hk w D D (.agg xs.toArray) (.agg ys.toArray) la lb fx fy (by simpa [Value.cells] using hx) (by simpa [Value.cells] using hy)
  rw [show 10000 - m + m = 10000 by omega] at hb
  have hbr : b = r := by rw [Bool.eq_iff_iff, hiff, hr]
  subst hbr
  constructor
  · rw [Sem.run_bind, run_eqGuard_agg (hm := hg), Result.andThen_ok, run_eql_struct, hb]; rfl
  · rw [Sem.run_bind, run_eqGuard_agg (hm := hg), Result.andThen_ok, run_neq_struct, hb]; rfl
theorem dig_eqb {x y : List Nat} (hx : Dg x) (hy : Dg y) (px py : Operand) (w : World) :
    (do eqGuard .eql 29 px py (dval x) (dval y); binOp .eql 29 (dval x) (dval y) : Sem Value).run Try.prog w = .ok (.bool (decide (x = y))) w ∧
    (do eqGuard .neq 29 px py (dval x) (dval y); binOp .neq 29 (dval x) (dval y) : Sem Value).run Try.prog w = .ok (.bool (!decide (x = y))) w :=
  deepEq 29 6 (by decide) (by kernel_rfl) (by kernel_rfl) (by simp [Value.formed, Try.underlying29, cellsD, bv_length, hx.1]) (by simp [Value.formed, Try.underlying29, cellsD, bv_length, hy.1]) (lits_bv 0 x hx) (lits_bv 0 y hy) (by rw [lbv_inj]; simp) px py w
theorem node_eqb {x y : Nd} (hx : Nok x) (hy : Nok y) (px py : Operand) (w : World) :
    (do eqGuard .eql 91 px py (nval x) (nval y); binOp .eql 91 (nval x) (nval y) : Sem Value).run Try.prog w = .ok (.bool (decide (x.d = y.d ∧ x.p = y.p ∧ x.k = y.k))) w ∧
    (do eqGuard .neq 91 px py (nval x) (nval y); binOp .neq 91 (nval x) (nval y) : Sem Value).run Try.prog w = .ok (.bool (!decide (x.d = y.d ∧ x.p = y.p ∧ x.k = y.k))) w :=
  deepEq 91 6 (by decide) (by kernel_rfl) (by kernel_rfl) (by simp [Value.formed, Try.underlying91, cellsNd, ncells_len _ hx.1.1]) (by simp [Value.formed, Try.underlying91, cellsNd, ncells_len _ hy.1.1]) (lits_nd 0 x hx) (lits_nd 0 y hy) (by
    simp only [List.cons.injEq, Lit.int.injEq, true_and, lbv_inj, decide_eq_true_eq]) px py w
theorem cellsG : Try.prog.cellsOf 52 = 2 := by kernel_rfl
theorem lits_gap (d : Nat) (a b : Int) (ha : -9223372036854775808 ≤ a ∧ a ≤ 9223372036854775807) (hb : -9223372036854775808 ≤ b ∧ b ≤ 9223372036854775807) : Try.prog.keyLits (d + 2) 52 [.int .i64 a, .int .i64 b] = some [.int .i64 a, .int .i64 b] := by
  unfold Program.keyLits
  rw [Try.underlying52]
  simp only
  rw [if_pos (by rw [cellsG]; rfl)]
  have e0 : ([Value.int .i64 a, .int .i64 b].drop (0 * 1)).take 1 = [.int .i64 a] := rfl
  have e1 : ([Value.int .i64 a, .int .i64 b].drop (1 * 1)).take 1 = [.int .i64 b] := rfl
  rw [show List.range 2 = [0, 1] from rfl]
  simp only [List.mapM_cons, List.mapM_nil, cellsI6, e0, e1, lits_i6 d a ha, lits_i6 d b hb]
  simp
theorem gap_eqb {a b c e : Int} (ha : -9223372036854775808 ≤ a ∧ a ≤ 9223372036854775807) (hb : -9223372036854775808 ≤ b ∧ b ≤ 9223372036854775807) (hc : -9223372036854775808 ≤ c ∧ c ≤ 9223372036854775807) (he : -9223372036854775808 ≤ e ∧ e ≤ 9223372036854775807) (px py : Operand) (w : World) :
    (do eqGuard .eql 52 px py (.agg #[.int .i64 a, .int .i64 b]) (.agg #[.int .i64 c, .int .i64 e]); binOp .eql 52 (.agg #[.int .i64 a, .int .i64 b]) (.agg #[.int .i64 c, .int .i64 e]) : Sem Value).run Try.prog w = .ok (.bool (decide (a = c ∧ b = e))) w ∧
    (do eqGuard .neq 52 px py (.agg #[.int .i64 a, .int .i64 b]) (.agg #[.int .i64 c, .int .i64 e]); binOp .neq 52 (.agg #[.int .i64 a, .int .i64 b]) (.agg #[.int .i64 c, .int .i64 e]) : Sem Value).run Try.prog w = .ok (.bool (!decide (a = c ∧ b = e))) w :=
  deepEq 52 6 (by decide) (by kernel_rfl) (by kernel_rfl) (xs := [.int .i64 a, .int .i64 b]) (ys := [.int .i64 c, .int .i64 e]) (by simp [Value.formed, Try.underlying52, cellsG]) (by simp [Value.formed, Try.underlying52, cellsG]) (lits_gap 0 a b ha hb) (lits_gap 0 c e hc he) (by
    simp) px py w
end Go.Proofs.Yteakoleceoclkaa
