/- The functions as laws call them; equality; awake. (merged by merge.py) -/
import Derived.Test.YteakoleceoclkaaK16
import Derived.DeepKeys
namespace Go.Proofs.Yteakoleceoclkaa

/-! ## K17 -/
section
open Go.RowKit Go.Shelf
set_option linter.unusedSimpArgs false
set_option linter.unusedVariables false

/-- a slice reads as a tree -/
def RdT (w : World) (s : Value) (l : List Nd) : Prop := Sl w 34 s l.length (tcells l) ∧ (∀ n ∈ l, Nok n) ∧ (∀ k, fpT s k → k < w.heap.size) ∧ l.length ≤ 1099511627776
theorem RdT.kn {w w' : World} {s : Value} {l : List Nd} (h : RdT w s l) (g : w.grownBy w' none) : RdT w' s l := ⟨Sl.kn h.1 g, h.2.1, fun k hk => Nat.lt_of_lt_of_le (h.2.2.1 k hk) g.size, h.2.2.2⟩
theorem RdT.shape {w : World} {s : Value} {l : List Nd} (h : RdT w s l) : ∃ ao cap, s = .slice ao l.length cap := by
  obtain ⟨ao, cap, e, _, _⟩ := Sl.shape h.1
  exact ⟨ao, cap, e⟩
theorem toK : ∀ (l : List Nd), (∀ n ∈ l, Nok n) → ∃ L : List NdK, L.map (·.1) = l
  | [], _ => ⟨[], rfl⟩
  | n :: l, h => by
    obtain ⟨L, hL⟩ := toK l fun m hm => h m (List.mem_cons.2 (.inr hm))
    exact ⟨⟨n, h n (List.mem_cons.2 (.inl rfl))⟩ :: L, by rw [List.map_cons, hL]⟩
theorem RdT.k {w : World} {s : Value} {l : List Nd} (h : RdT w s l) : ∃ L : List NdK, L.map (·.1) = l ∧ RdL w s L := by
  obtain ⟨L, rfl⟩ := toK l h.2.1
  exact ⟨L, rfl, ⟨h.1, h.2.1⟩, h.2.2.1, by have := h.2.2.2; rwa [List.length_map] at this⟩
theorem RdL.t {w : World} {s : Value} {L : List NdK} (h : RdL w s L) : RdT w s (L.map (·.1)) := ⟨h.1.1, h.1.2, h.2.1, by rw [List.length_map]; exact h.2.2⟩
theorem valid_call {w : World} {s : Value} {l : List Nd} (h : RdT w s l) : Calls Try.prog 27 #[.agg #[s]] w fun e w' => e = .returned (.bool (vld l)) ∧ w.grownBy w' none := by
  obtain ⟨L, rfl, hL⟩ := h.k
  exact valid_walk L s w hL
theorem rvalid_call {w : World} {s : Value} {l : List Nd} (h : RdT w s l) : Calls Try.prog 33 #[.agg #[s]] w fun e w' => e = .returned (.bool (vld l)) ∧ w.grownBy w' none := by
  obtain ⟨L, rfl, hL⟩ := h.k
  exact rvalid_walk L s w hL
theorem leaf_call {w : World} {s : Value} {l : List Nd} {a : Int} {r : List Nat × Int} (hr : leafOf l a = r) (h : RdT w s l) : Calls Try.prog 20 #[.agg #[s], .int .i64 a] w fun e w' => e = .returned (.tuple #[dval r.1, .int .i64 r.2]) ∧ w.grownBy w' none := by
  subst hr
  obtain ⟨L, rfl, hL⟩ := h.k
  exact leaf_walk L s a w hL
theorem rleaf_call {w : World} {s : Value} {l : List Nd} {a : Int} {r : List Nat × Int} (hr : leafOf l a = r) (h : RdT w s l) : Calls Try.prog 22 #[.agg #[s], .int .i64 a] w fun e w' => e = .returned (.tuple #[dval r.1, .int .i64 r.2]) ∧ w.grownBy w' none := by
  subst hr
  obtain ⟨L, rfl, hL⟩ := h.k
  exact rleaf_walk L s a w hL
theorem leafOf_dg {l : List Nd} (h : ∀ n ∈ l, Nok n) (a : Int) : Dg (leafOf l a).1 := by
  have hz : Dg zero32 := ⟨rfl, by intro x hx; simp [zero32, zs] at hx; omega⟩
  unfold leafOf
  split
  · split
    · rename_i n hn; exact desc_dg _ _ _ (h n (List.mem_of_find?_eq_some hn)).1
    · exact hz
  · exact hz
theorem punOf_ok {l : List Nd} (h : ∀ n ∈ l, Nok n) (a : Int) : ∀ n ∈ (punOf l a).1, Nok n := by
  have h0 : ∀ n ∈ punP a l, Nok n := by
    intro n hn
    unfold punP at hn
    obtain ⟨x, hx, hn⟩ := List.mem_flatMap.1 hn
    split at hn
    · rename_i hA
      have ho := hasA_ok hA
      have hd := okN_iff.1 ho
      have := oth_ok (34 - x.d).toNat x (by omega) ho n hn
      exact Nok_of this.1 this.2
    · obtain rfl := List.mem_singleton.1 hn; exact h n hx
  intro n hn
  unfold punOf at hn
  split at hn
  · split at hn
    · cases hn
    · exact h0 n hn
  · cases hn
theorem punOf_len {l : List Nd} (a : Int) : (punOf l a).1.length ≤ 32768 := by
  unfold punOf
  split
  · split
    · simp
    · rename_i h; simp only; omega
  · simp
/-- what Puncture hands to a law -/
def PunC (w : World) (r : List Nd × Int) (e : Ending) (w' : World) : Prop := ∃ ao cap, e = .returned (.tuple #[.agg #[.slice ao r.1.length cap], .int .i64 r.2]) ∧ RdT w' (.slice ao r.1.length cap) r.1 ∧ w.grownBy w' none
theorem PunS.c {w w' : World} {l : List Nd} {a : Int} {e : Ending} (hl : ∀ n ∈ l, Nok n) (hlen : l.length ≤ 1099511627776) {s : Value} (h : PunS w s (punOf l a) e w') : PunC w (punOf l a) e w' := by
  obtain ⟨v, h1, h2, h3, h4, _⟩ := h
  obtain ⟨ao, cap, rfl, _⟩ := h2.shape
  exact ⟨ao, cap, h1, ⟨h2, punOf_ok hl a, h3, by have := punOf_len (l := l) a; omega⟩, h4⟩
theorem punct_call {w : World} {s : Value} {l : List Nd} {a : Int} {r : List Nd × Int} (hr : punOf l a = r) (h : RdT w s l) : Calls Try.prog 24 #[.agg #[s], .int .i64 a] w (PunC w r) := by
  subst hr
  have h2 := h
  obtain ⟨L, rfl, hL⟩ := h.k
  exact (punct_walk L s a w hL).mono fun e w' hp => PunS.c (s := s) h2.2.1 h2.2.2.2 (PunR.s hp)
theorem rpunct_call {w : World} {s : Value} {l : List Nd} {a : Int} {r : List Nd × Int} (hr : punOf l a = r) (h : RdT w s l) : Calls Try.prog 25 #[.agg #[s], .int .i64 a] w (PunC w r) := by
  subst hr
  have h2 := h
  obtain ⟨L, rfl, hL⟩ := h.k
  exact (rpunct_walk L s a w hL).mono fun e w' hp => PunS.c h2.2.1 h2.2.2.2 hp
theorem NewC {w w' : World} {k : List Nat} (hk : Dg k) {s : Value} (ho : Own w' 91 34 s 1 (ncells ⟨0, 0, k⟩)) (hf : Fresh w w' s) : ∃ ao cap, s = .slice ao 1 cap ∧ RdT w' (.slice ao 1 cap) (tree k []) ∧ w.grownBy w' none := by
  obtain ⟨ao, cap, rfl, _⟩ := (Sl.of_own ho).shape
  refine ⟨ao, cap, rfl, ⟨?_, tree_ok hk, fun k hk => Own.lt ho k hk.1, by rw [tree_nil]; simp⟩, hf.none⟩
  rw [tree_nil]
  exact by have := Sl.of_own ho; unfold tcells; simpa [root] using this
theorem new_call {w : World} {k : List Nat} (hk : Dg k) : Calls Try.prog 21 #[dval k] w fun e w' => ∃ ao cap, e = .returned (.agg #[.slice ao 1 cap]) ∧ RdT w' (.slice ao 1 cap) (tree k []) ∧ w.grownBy w' none :=
  (new_walk k hk w).mono fun e w' ⟨s, he, ho, hf⟩ => by
    obtain ⟨ao, cap, rfl, h1, h2⟩ := NewC hk ho hf
    exact ⟨ao, cap, he, h1, h2⟩
theorem rnew_call {w : World} {k : List Nat} (hk : Dg k) : Calls Try.prog 23 #[dval k] w fun e w' => ∃ ao cap, e = .returned (.agg #[.slice ao 1 cap]) ∧ RdT w' (.slice ao 1 cap) (tree k []) ∧ w.grownBy w' none :=
  (rnew_walk k hk w).mono fun e w' ⟨s, he, ho, hf⟩ => by
    obtain ⟨ao, cap, rfl, h1, h2⟩ := NewC hk ho hf
    exact ⟨ao, cap, he, h1, h2⟩
theorem gaps_call {w : World} {s : Value} {l : List Nd} {g : List (Int × Int)} (hg : gaps l = g) (h : RdT w s l) : Calls Try.prog 32 #[.agg #[s]] w fun e w' => ∃ ao cap, e = .returned (.slice ao g.length cap) ∧ Own w' 52 2 (.slice ao g.length cap) g.length (gcells g) ∧ w.grownBy w' none := by
  subst hg
  obtain ⟨L, rfl, hL⟩ := h.k
  refine (gaps_walk L s w hL).mono fun e w' ⟨v, he, ho, hf⟩ => ?_
  obtain ⟨ao, cap, rfl, _⟩ := (Sl.of_own ho).shape
  exact ⟨ao, cap, he, ho, hf.none⟩
end

/-! ## E1 -/
section
open Go.RowKit
set_option linter.unusedSimpArgs false
set_option linter.unusedVariables false

theorem mapM_some' {α β : Type} {f : α → Option β} {g : α → β} : ∀ {l : List α}, (∀ x ∈ l, f x = some (g x)) → l.mapM f = some (l.map g) := by
  intro l
  induction l with
  | nil => intro _; rfl
  | cons x l ih =>
    intro h
    rw [List.mapM_cons, h x (List.mem_cons.2 (.inl rfl)), ih fun y hy => h y (List.mem_cons.2 (.inr hy))]
    rfl
def lbv (l : List Nat) : List Lit := l.map fun x : Nat => .int .u8 (x : Int)
theorem lbv_inj {l m : List Nat} : lbv l = lbv m ↔ l = m := by
  refine ⟨fun h => ?_, fun h => by rw [h]⟩
  unfold lbv at h
  exact (List.map_inj_right (fun a b hab => by
    injection hab with _ h2
    exact Int.ofNat.inj h2)).1 h
theorem cells5' : Try.prog.cellsOf 5 = 1 := by kernel_rfl
theorem cellsD : Try.prog.cellsOf 29 = 32 := by kernel_rfl
theorem cellsI : Try.prog.cellsOf 3 = 1 := by kernel_rfl
theorem cellsI6 : Try.prog.cellsOf 2 = 1 := by kernel_rfl
theorem cellsNd : Try.prog.cellsOf 91 = 34 := by kernel_rfl
theorem lits_u8 (d : Nat) (x : Nat) (h : x < 256) : Try.prog.keyLits (d + 1) 5 [.int .u8 (x : Int)] = some [.int .u8 (x : Int)] := by
  unfold Program.keyLits
  rw [Try.underlying5]
  simp [Lit.wf, IntKind.min, IntKind.max, IntKind.signed, IntKind.bits]
  omega
theorem lits_bv (d : Nat) (l : List Nat) (h : Dg l) : Try.prog.keyLits (d + 2) 29 (bv l) = some (lbv l) := by
  unfold Program.keyLits
  rw [Try.underlying29]
  simp only
  rw [if_pos (by rw [bv_length, h.1, cellsD])]
  have hm : ∀ i ∈ List.range 32, Try.prog.keyLits (d + 1) 5 (((bv l).drop (i * Try.prog.cellsOf 5)).take (Try.prog.cellsOf 5)) = some [.int .u8 ((l.getD i 0 : Nat) : Int)] := fun i hi => by
    have hil : i < l.length := by rw [h.1]; exact List.mem_range.1 hi
    rw [cells5', Nat.mul_one]
    have e : ((bv l).drop i).take 1 = [.int .u8 ((l[i] : Nat) : Int)] := by
      unfold bv
      rw [List.drop_eq_getElem_cons (by rw [List.length_map]; exact hil), List.take_succ_cons, List.take_zero, List.getElem_map]
    rw [e, lits_u8 d _ (h.2 _ (List.getElem_mem hil)), List.getD_eq_getElem?_getD, List.getElem?_eq_getElem hil]
    rfl
  rw [mapM_some' hm]
  obtain ⟨x0, x1, x2, x3, x4, x5, x6, x7, x8, x9, x10, x11, x12, x13, x14, x15, x16, x17, x18, x19, x20, x21, x22, x23, x24, x25, x26, x27, x28, x29, x30, x31, rfl⟩ := list32 l h.1
  rfl
theorem lits_i (d : Nat) (x : Int) (h : -9223372036854775808 ≤ x ∧ x ≤ 9223372036854775807) : Try.prog.keyLits (d + 1) 3 [.int .i64 x] = some [.int .i64 x] := by
  unfold Program.keyLits
  rw [Try.underlying3]
  simp [Lit.wf, IntKind.min, IntKind.max, IntKind.signed, IntKind.bits]
  omega
theorem lits_i6 (d : Nat) (x : Int) (h : -9223372036854775808 ≤ x ∧ x ≤ 9223372036854775807) : Try.prog.keyLits (d + 1) 2 [.int .i64 x] = some [.int .i64 x] := by
  unfold Program.keyLits
  rw [Try.underlying2]
  simp [Lit.wf, IntKind.min, IntKind.max, IntKind.signed, IntKind.bits]
  omega
theorem lits_nd (d : Nat) (n : Nd) (h : Nok n) : Try.prog.keyLits (d + 3) 91 (ncells n) = some (.int .i64 n.d :: .int .i64 n.p :: lbv n.k) := by
  unfold Program.keyLits
  rw [Try.underlying91]
  simp only
  rw [if_pos ⟨by rw [ncells_len _ h.1.1, cellsNd], by kernel_rfl⟩]
  have e0 : ((ncells n).drop 0).take 1 = [.int .i64 n.d] := rfl
  have e1 : ((ncells n).drop 1).take 1 = [.int .i64 n.p] := rfl
  have e2 : ((ncells n).drop 2).take 32 = bv n.k := by
    unfold ncells
    simp only [List.drop_succ_cons, List.drop_zero]
    exact List.take_of_length_le (by rw [bv_length, h.1.1]; exact Nat.le_refl _)
  simp only [List.mapM_cons, List.mapM_nil, cellsI, cellsI6, cellsD, e0, e1, e2, lits_i (d + 1) n.d h.2.1, lits_i6 (d + 1) n.p h.2.2, lits_bv d n.k h.1]
  simp
theorem deepEq (T : TypeId) (m : Nat) (hm : m ≤ 10000) (hk : Try.prog.keyTypeAt m T = true) (hg : Try.prog.eqGuardType Try.prog.depth T = false) {xs ys : List Value} {D : Nat} {la lb : List Lit}
    (fx : (Value.agg xs.toArray).formed Try.prog T = true) (fy : (Value.agg ys.toArray).formed Try.prog T = true) (hx : Try.prog.keyLits D T xs = some la) (hy : Try.prog.keyLits D T ys = some lb) {r : Bool} (hr : r = true ↔ la = lb) (px py : Operand) (w : World) :
    (do eqGuard .eql T px py (.agg xs.toArray) (.agg ys.toArray); binOp .eql T (.agg xs.toArray) (.agg ys.toArray) : Sem Value).run Try.prog w = .ok (.bool r) w ∧
    (do eqGuard .neq T px py (.agg xs.toArray) (.agg ys.toArray); binOp .neq T (.agg xs.toArray) (.agg ys.toArray) : Sem Value).run Try.prog w = .ok (.bool (!r)) w := by
  obtain ⟨b, hb, hiff⟩ := run_equalIn_deep (P := Try.prog) (10000 - m) m T hk w D D (.agg xs.toArray) (.agg ys.toArray) la lb fx fy (by simpa [Value.cells] using hx) (by simpa [Value.cells] using hy)
  rw [show 10000 - m + m = 10000 by omega] at hb
  have hbr : b = r := by rw [Bool.eq_iff_iff, hiff, hr]
  subst hbr
  constructor
  · rw [Sem.run_bind, run_eqGuard_agg (hm := hg), Result.andThen_ok, run_eql_struct, hb]; rfl
  · rw [Sem.run_bind, run_eqGuard_agg (hm := hg), Result.andThen_ok, run_neq_struct, hb]; rfl
theorem dig_eqb {x y : List Nat} (hx : Dg x) (hy : Dg y) (px py : Operand) (w : World) :
    (do eqGuard .eql 29 px py (dval x) (dval y); binOp .eql 29 (dval x) (dval y) : Sem Value).run Try.prog w = .ok (.bool (decide (x = y))) w ∧
    (do eqGuard .neq 29 px py (dval x) (dval y); binOp .neq 29 (dval x) (dval y) : Sem Value).run Try.prog w = .ok (.bool (!decide (x = y))) w :=
  deepEq 29 6 (by decide) (by kernel_rfl) (by kernel_rfl) (by simp [Value.formed, Try.underlying29, cellsD, bv_length, hx.1]) (by simp [Value.formed, Try.underlying29, cellsD, bv_length, hy.1]) (lits_bv 0 x hx) (lits_bv 0 y hy) (by rw [lbv_inj]; simp) px py w
theorem node_eqb {x y : Nd} (hx : Nok x) (hy : Nok y) (px py : Operand) (w : World) :
    (do eqGuard .eql 91 px py (nval x) (nval y); binOp .eql 91 (nval x) (nval y) : Sem Value).run Try.prog w = .ok (.bool (decide (x.d = y.d ∧ x.p = y.p ∧ x.k = y.k))) w ∧
    (do eqGuard .neq 91 px py (nval x) (nval y); binOp .neq 91 (nval x) (nval y) : Sem Value).run Try.prog w = .ok (.bool (!decide (x.d = y.d ∧ x.p = y.p ∧ x.k = y.k))) w :=
  deepEq 91 6 (by decide) (by kernel_rfl) (by kernel_rfl) (by simp [Value.formed, Try.underlying91, cellsNd, ncells_len _ hx.1.1]) (by simp [Value.formed, Try.underlying91, cellsNd, ncells_len _ hy.1.1]) (lits_nd 0 x hx) (lits_nd 0 y hy) (by
    simp only [List.cons.injEq, Lit.int.injEq, true_and, lbv_inj, decide_eq_true_eq]) px py w
theorem cellsG : Try.prog.cellsOf 52 = 2 := by kernel_rfl
theorem lits_gap (d : Nat) (a b : Int) (ha : -9223372036854775808 ≤ a ∧ a ≤ 9223372036854775807) (hb : -9223372036854775808 ≤ b ∧ b ≤ 9223372036854775807) : Try.prog.keyLits (d + 2) 52 [.int .i64 a, .int .i64 b] = some [.int .i64 a, .int .i64 b] := by
  unfold Program.keyLits
  rw [Try.underlying52]
  simp only
  rw [if_pos (by rw [cellsG]; rfl)]
  have e0 : ([Value.int .i64 a, .int .i64 b].drop (0 * 1)).take 1 = [.int .i64 a] := rfl
  have e1 : ([Value.int .i64 a, .int .i64 b].drop (1 * 1)).take 1 = [.int .i64 b] := rfl
  rw [show List.range 2 = [0, 1] from rfl]
  simp only [List.mapM_cons, List.mapM_nil, cellsI6, e0, e1, lits_i6 d a ha, lits_i6 d b hb]
  simp
theorem gap_eqb {a b c e : Int} (ha : -9223372036854775808 ≤ a ∧ a ≤ 9223372036854775807) (hb : -9223372036854775808 ≤ b ∧ b ≤ 9223372036854775807) (hc : -9223372036854775808 ≤ c ∧ c ≤ 9223372036854775807) (he : -9223372036854775808 ≤ e ∧ e ≤ 9223372036854775807) (px py : Operand) (w : World) :
    (do eqGuard .eql 52 px py (.agg #[.int .i64 a, .int .i64 b]) (.agg #[.int .i64 c, .int .i64 e]); binOp .eql 52 (.agg #[.int .i64 a, .int .i64 b]) (.agg #[.int .i64 c, .int .i64 e]) : Sem Value).run Try.prog w = .ok (.bool (decide (a = c ∧ b = e))) w ∧
    (do eqGuard .neq 52 px py (.agg #[.int .i64 a, .int .i64 b]) (.agg #[.int .i64 c, .int .i64 e]); binOp .neq 52 (.agg #[.int .i64 a, .int .i64 b]) (.agg #[.int .i64 c, .int .i64 e]) : Sem Value).run Try.prog w = .ok (.bool (!decide (a = c ∧ b = e))) w :=
  deepEq 52 6 (by decide) (by kernel_rfl) (by kernel_rfl) (xs := [.int .i64 a, .int .i64 b]) (ys := [.int .i64 c, .int .i64 e]) (by simp [Value.formed, Try.underlying52, cellsG]) (by simp [Value.formed, Try.underlying52, cellsG]) (lits_gap 0 a b ha hb) (lits_gap 0 c e hc he) (by
    simp) px py w
end

/-! ## K18 -/
section
open Go.RowKit Go.Shelf
set_option linter.unusedSimpArgs false
set_option linter.unusedVariables false
attribute [local go_sem] Oper.semAt_some

/-- a comparison, its run given -/
theorem wpList_binG {P : Program} {ops : Array Oper} {rest : List Oper} {o : Oper} {a : Act} {w : World} {Q : Exit → Act → World → Prop} (hw : Region.wanted o (yielded ops a.tmps) = true) (b : BinOp) (ty ty2 : TypeId) (x y : Operand) (ho : o.op = .binOp b ty x y ty2)
    {vx vy v : Value} (hx : a.eval x = vx) (hy : a.eval y = vy) (hr : (do eqGuard b ty x y vx vy; binOp b ty vx vy : Sem Value).run P w = .ok v w) (h : wpList P ops Q rest (a.put o.dst v) w) : wpList P ops Q (o :: rest) a w := by
  refine wpList_onG hw fun K hK => ?_
  unfold Oper.wp execOp
  simp only [ho, hx, hy]
  simp only [Sem.run_bind] at hr ⊢
  cases hg : (eqGuard b ty x y vx vy).run P w with
  | ok u w1 =>
    rw [hg] at hr
    simp only [Result.andThen_ok] at hr ⊢
    rw [hr]
    exact hK _ _ h
  | halt u w1 =>
    rw [hg] at hr
    cases hr
theorem dig_same (x : List Nat) (hx : Dg x) (px py : Operand) (w : World) : (do eqGuard .eql 29 px py (dval x) (dval x); binOp .eql 29 (dval x) (dval x) : Sem Value).run Try.prog w = .ok (.bool true) w := by
  have h := (dig_eqb hx hx px py w).1
  simpa using h
def k1 : List Nat := 1 :: zs 31
theorem dk1 : Dg k1 := ⟨rfl, by intro x hx; simp [k1, zs] at hx; omega⟩
theorem bD1 (w : World) : (Instr.build 29 #[(0, .int .u8 1)]).run Try.prog w = .ok (dval k1) w := by kernel_rfl
/-- the plain law of the example -/
theorem awake_plain : ∃ K, Dg K ∧ leafOf (tree k1 []) 1 = (K, 0) ∧ punOf (tree k1 []) 0 = (tree k1 [0], 0) ∧ (tree k1 [0]).length = 34 ∧ leafOf (tree k1 [0]) 1 = (K, 0) ∧ leafOf (tree k1 [0]) 0 = (zero32, 10) ∧ gaps (tree k1 [0]) = [(0, 1)] := by
  have h0 : isAddr 0 = true := by decide
  have h1 : isAddr 1 = true := by decide
  have v0 := tree_vld_of k1 [] (by simp)
  have v1 := tree_vld_of k1 [0] (by simp)
  have hl := leaf_tree k1 [] 1 v0 h1
  have hl1 := leaf_tree k1 [0] 1 v1 h1
  have hl0 := leaf_tree k1 [0] 0 v1 h0
  rw [if_neg (by simp)] at hl hl1
  rw [if_pos (by simp)] at hl0
  refine ⟨_, desc_dg 1 34 (root k1) dk1, hl, punOf_tree (by simp) h0, ?_, hl1, hl0, ?_⟩
  · rw [← tree_pun k1 [] 0, tree_nil]
    unfold pun
    rw [List.flatMap_cons, List.flatMap_nil, if_pos (cov_root k1 h0), List.append_nil, oth_len]
    rfl
  · refine norm_unique (gaps_norm v1) ⟨by simp, by simp⟩ fun x => ?_
    rw [gaps_tree v1 x, inG_one]
    simp only [List.mem_singleton]
    constructor
    · rintro ⟨_, rfl⟩; omega
    · intro h; obtain rfl : x = 0 := by omega
      exact ⟨h0, rfl⟩
set_option maxRecDepth 100000 in
set_option maxHeartbeats 4000000 in
theorem awake_walk (w : World) : Calls Try.prog 19 #[] w fun e w' => e = .returned (.bool true) ∧ w.grownBy w' none := by
  obtain ⟨K, hK, p1, p2, p3, p4, p5, p6⟩ := awake_plain
  have DK := hid hK
  have P1 := hid p1
  have P2 := hid p2
  have P3 := hid p3
  have P4 := hid p4
  have P5 := hid p5
  have P6 := hid p6
  clear hK p1 p2 p3 p4 p5 p6
  go_enter Try.func19, Try.ntmps19
  refine wp_seq_k fun K0 k0 => ?_
  have HK0 := hid k0
  clear k0
  go_wp2
  refine HK0.out _ _ ?_
  clear HK0
  refine wp_seq_k fun K1 k1h => ?_
  have HK1 := hid k1h
  clear k1h
  go_wp2_with (first
    | (refine wpList_buildR rfl 29 _ rfl #[(0, .int .u8 1)] (by simp only [List.map_toArray, List.map_cons, List.map_nil, Act.eval]; rfl) (bD1 _) ?_)
    | fail)
  refine (new_call dk1).mono ?_
  rintro e W1 ⟨ao1, cap1, rfl, h1, g1⟩
  have G1 := hid g1
  have T1 := hid h1
  clear h1 g1
  go_wp2_with (first
    | (refine wpList_storeTYg rfl 34 (.tmp 1) (.tmp 14) rfl rfl rfl (tyT (.slice ao1 1 cap1) rfl) (heap_at rfl) rfl ?_; intro W2 g2 h2; have G2 := hid (grown_newR (World.grownBy_alloc W1 _ none) g2 (Nat.le_refl _)); have H2 := hid h2; clear g2 h2)
    | fail)
  try go_frame
  obtain ⟨B1, hB1⟩ : ∃ x, x = W1.heap.size := ⟨_, rfl⟩
  rw [← hB1] at H2 ⊢
  clear hB1
  have HG := hid (grown_trans G1.out G2.out)
  have HB1 := H2
  have HT1 := hid (T1.out.kn G2.out)
  clear G1 G2 H2 T1
  refine HK1.out _ _ ?_
  clear HK1
  refine wp_seq_k fun K2 k2h => ?_
  have HK2 := hid k2h
  clear k2h
  have c2 : W2.cell? ⟨B1, 0, none⟩ = some (.slice ao1 1 cap1) := by rw [cell_of_row _ _ _ _ _ _ HB1.out]; rfl
  have y2 := block_lt_of_cell c2
  go_wp2_with fail
  refine (leaf_call P1.out HT1.out).mono ?_
  rintro e V2 ⟨rfl, g⟩
  clear c2 y2
  replace HB1 := hid (row_of g HB1.out (by simp))
  replace HT1 := hid (HT1.out.kn g)
  replace HG := hid (grown_trans HG.out g)
  clear g
  go_wp2_with (first
    | (refine wpList_storeTYg rfl 29 (.tmp 2) (.tmp 18) rfl rfl rfl (tyD K DK.out.1) (heap_at rfl) (by rw [bv_length, DK.out.1]; rfl) ?_; intro W3 g2 h2; have G2 := hid (grown_newR (World.grownBy_alloc V2 _ none) g2 (Nat.le_refl _)); have H2 := hid h2; clear g2 h2)
    | fail)
  try go_frame
  obtain ⟨B2, hB2⟩ : ∃ x, x = V2.heap.size := ⟨_, rfl⟩
  rw [← hB2] at H2 ⊢
  clear hB2
  replace HB1 := hid (row_of G2.out HB1.out (by simp))
  replace HT1 := hid (HT1.out.kn G2.out)
  replace HG := hid (grown_trans HG.out G2.out)
  have HB2 := H2
  clear G2 H2
  refine HK2.out _ _ ?_
  clear HK2
  refine wp_seq_k fun K3 k3h => ?_
  have HK3 := hid k3h
  clear k3h
  have c3 : W3.cell? ⟨B1, 0, none⟩ = some (.slice ao1 1 cap1) := by rw [cell_of_row _ _ _ _ _ _ HB1.out]; rfl
  have y3 := block_lt_of_cell c3
  go_wp2_with fail
  refine (punct_call P2.out HT1.out).mono ?_
  rintro e V3 ⟨ao2, cap2, rfl, h1, g⟩
  rw [show ((tree k1 [0], (0 : Int)).1).length = 34 from P3.out] at h1 ⊢
  have T2 := hid h1
  clear h1 c3 y3
  replace HB1 := hid (row_of g HB1.out (by simp))
  replace HB2 := hid (row_of g HB2.out (by simp))
  replace HG := hid (grown_trans HG.out g)
  clear g HT1
  go_wp2_with (first
    | (refine wpList_storeTYg rfl 34 (.tmp 4) (.tmp 23) rfl rfl rfl (tyT (.slice ao2 34 cap2) rfl) (heap_at rfl) rfl ?_; intro W4 g2 h2; have G2 := hid (grown_newR (World.grownBy_alloc V3 _ none) g2 (Nat.le_refl _)); have H2 := hid h2; clear g2 h2)
    | fail)
  try go_frame
  obtain ⟨B4, hB4⟩ : ∃ x, x = V3.heap.size := ⟨_, rfl⟩
  rw [← hB4] at H2 ⊢
  clear hB4
  replace HB1 := hid (row_of G2.out HB1.out (by simp))
  replace HB2 := hid (row_of G2.out HB2.out (by simp))
  replace HG := hid (grown_trans HG.out G2.out)
  have HB4 := H2
  have HT2 := hid (T2.out.kn G2.out)
  clear G2 H2 T2
  refine HK3.out _ _ ?_
  clear HK3
  refine wp_seq_k fun K4 k4h => ?_
  have HK4 := hid k4h
  clear k4h
  have c4 : W4.cell? ⟨B4, 0, none⟩ = some (.slice ao2 34 cap2) := by rw [cell_of_row _ _ _ _ _ _ HB4.out]; rfl
  have y4 := block_lt_of_cell c4
  go_wp2_with fail
  refine (leaf_call P4.out HT2.out).mono ?_
  rintro e V4 ⟨rfl, g⟩
  clear c4 y4
  replace HB1 := hid (row_of g HB1.out (by simp))
  replace HB2 := hid (row_of g HB2.out (by simp))
  replace HB4 := hid (row_of g HB4.out (by simp))
  replace HT2 := hid (HT2.out.kn g)
  replace HG := hid (grown_trans HG.out g)
  clear g
  go_wp2_with (first
    | (refine wpList_storeTYg rfl 29 (.tmp 6) (.tmp 28) rfl rfl rfl (tyD K DK.out.1) (heap_at rfl) (by rw [bv_length, DK.out.1]; rfl) ?_; intro W5 g2 h2; have G2 := hid (grown_newR (World.grownBy_alloc V4 _ none) g2 (Nat.le_refl _)); have H2 := hid h2; clear g2 h2)
    | fail)
  try go_frame
  obtain ⟨B6, hB6⟩ : ∃ x, x = V4.heap.size := ⟨_, rfl⟩
  rw [← hB6] at H2 ⊢
  clear hB6
  replace HB1 := hid (row_of G2.out HB1.out (by simp))
  replace HB2 := hid (row_of G2.out HB2.out (by simp))
  replace HB4 := hid (row_of G2.out HB4.out (by simp))
  replace HT2 := hid (HT2.out.kn G2.out)
  replace HG := hid (grown_trans HG.out G2.out)
  have HB6 := H2
  clear G2 H2
  refine HK4.out _ _ ?_
  clear HK4
  refine wp_seq_k fun K5 k5h => ?_
  have HK5 := hid k5h
  clear k5h
  have c5 : W5.cell? ⟨B4, 0, none⟩ = some (.slice ao2 34 cap2) := by rw [cell_of_row _ _ _ _ _ _ HB4.out]; rfl
  have y5 := block_lt_of_cell c5
  go_wp2_with fail
  refine (leaf_call P5.out HT2.out).mono ?_
  rintro e V5 ⟨rfl, g⟩
  clear c5 y5
  replace HB1 := hid (row_of g HB1.out (by simp))
  replace HB2 := hid (row_of g HB2.out (by simp))
  replace HB4 := hid (row_of g HB4.out (by simp))
  replace HB6 := hid (row_of g HB6.out (by simp))
  replace HT2 := hid (HT2.out.kn g)
  replace HG := hid (grown_trans HG.out g)
  clear g
  go_wp2_with (first
    | (refine wpList_storeTYg rfl 29 (.tmp 8) (.tmp 33) rfl rfl rfl (tyD zero32 (show zero32.length = 32 from rfl)) (heap_at rfl) (by rw [bv_length, (show zero32.length = 32 from rfl)]; rfl) ?_; intro W6 g2 h2; have G2 := hid (grown_newR (World.grownBy_alloc V5 _ none) g2 (Nat.le_refl _)); have H2 := hid h2; clear g2 h2)
    | fail)
  try go_frame
  obtain ⟨B8, hB8⟩ : ∃ x, x = V5.heap.size := ⟨_, rfl⟩
  rw [← hB8] at H2 ⊢
  clear hB8
  replace HB1 := hid (row_of G2.out HB1.out (by simp))
  replace HB2 := hid (row_of G2.out HB2.out (by simp))
  replace HB4 := hid (row_of G2.out HB4.out (by simp))
  replace HB6 := hid (row_of G2.out HB6.out (by simp))
  replace HT2 := hid (HT2.out.kn G2.out)
  replace HG := hid (grown_trans HG.out G2.out)
  have HB8 := H2
  clear G2 H2
  refine HK5.out _ _ ?_
  clear HK5
  refine wp_seq_k fun K6 k6h => ?_
  have HK6 := hid k6h
  clear k6h
  have c6 : W6.cell? ⟨B4, 0, none⟩ = some (.slice ao2 34 cap2) := by rw [cell_of_row _ _ _ _ _ _ HB4.out]; rfl
  have y6 := block_lt_of_cell c6
  go_wp2_with fail
  refine (gaps_call P6.out HT2.out).mono ?_
  rintro e V6 ⟨ao3, cap3, rfl, h1, g⟩
  clear c6 y6
  replace HB1 := hid (row_of g HB1.out (by simp))
  replace HB2 := hid (row_of g HB2.out (by simp))
  replace HB4 := hid (row_of g HB4.out (by simp))
  replace HB6 := hid (row_of g HB6.out (by simp))
  replace HB8 := hid (row_of g HB8.out (by simp))
  replace HG := hid (grown_trans HG.out g)
  have OG := hid (show Own V6 52 2 (.slice ao3 1 cap3) 1 [.int .i64 0, .int .i64 1] from h1)
  clear g h1
  simp only [List.length_cons, List.length_nil, Nat.zero_add]
  go_wp2
  refine HK6.out _ _ ?_
  clear HK6
  refine wp_seq_k fun K7 k7h => ?_
  have HK7 := hid k7h
  clear k7h
  go_wp2_with fail
  refine (address_walk 3 2 _).mono ?_
  rintro e V7 ⟨rfl, rfl⟩
  rw [show addrOf 3 2 = (26, 0) by decide]
  go_wp2
  refine HK7.out _ _ ?_
  clear HK7
  obtain ⟨b3, off3, rfl, hc3⟩ : ∃ b off, ao3 = some ⟨b, off, none⟩ ∧ V7.rangeAt b off [.int .i64 0, .int .i64 1] := by
    obtain ⟨b, off, hb, hc⟩ := Sl.at (Sl.of_own OG.out) 0 (by simp)
    refine ⟨b, off, hb, fun j u hj => ?_⟩
    have hjl := (List.getElem?_eq_some_iff.1 hj).1
    rw [hc j hjl, ← hj, List.getElem?_eq_getElem hjl]
  have HC3 := hid hc3
  have c4 : V7.cell? ⟨B4, 0, none⟩ = some (.slice ao2 34 cap2) := by rw [cell_of_row _ _ _ _ _ _ HB4.out]; rfl
  have y4 := block_lt_of_cell c4
  have d0 : V7.cell? ⟨b3, off3, none⟩ = some (.int .i64 0) := hc3 0 _ rfl
  have d1 : V7.cell? ⟨b3, off3 + 1, none⟩ = some (.int .i64 1) := hc3 1 _ rfl
  have y5 := block_lt_of_cell d0
  clear hc3
  go_wp2_with (first
    | (refine wpList_loadG rfl 29 (.tmp 2) rfl rfl (tyD K DK.out.1) (rangeAt_row HB2.out) ?_)
    | (refine wpList_loadG rfl 29 (.tmp 6) rfl rfl (tyD K DK.out.1) (rangeAt_row HB6.out) ?_)
    | (refine wpList_binG rfl .eql 29 29 (.tmp 52) (.tmp 53) rfl rfl rfl (dig_same K DK.out _ _ _) ?_)
    | (refine wpList_binG rfl .eql 52 52 (.tmp 74) (.tmp 75) rfl rfl rfl (gap_eqb (by decide) (by decide) (by decide) (by decide) _ _ _).1 ?_)
    | fail)
  go_ret
  exact ⟨rfl, HG.out⟩
end

end Go.Proofs.Yteakoleceoclkaa
