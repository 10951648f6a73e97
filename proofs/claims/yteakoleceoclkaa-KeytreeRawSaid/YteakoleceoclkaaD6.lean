/- Laws at operations on bytes: copy, slices of slices, calls at letters. -/
import Derived.Test.YteakoleceoclkaaD5
import Derived.Lib.SliceRun
import Derived.Laws.Externs
import Derived.Laws.IdiomCopy
import Derived.Deep.RegionLaw
namespace Go.Proofs.Yteakoleceoclkaa
open Go.RowKit
set_option linter.unusedSimpArgs false
set_option linter.unusedVariables false

theorem cellsAt {w : World} {g : Nat} {C : List Value} {t : TypeId} (h : w.heap[g]? = some (.cells C.toArray t (0, 0))) (j : Nat) : w.cell? ⟨g, j, none⟩ = C[j]? := by rw [cell_of_row _ _ _ _ _ _ h]; simp

/-- what copy does, whatever the size of an element -/
theorem run_copyK {P : Program} (w : World) (dT sT ty elem : TypeId) (size : Nat) (b o dLen dCap : Nat) (a : Addr) (sLen sCap : Nat) (cs : List Value)
    (hu : P.underlying dT = some (.slice elem)) (hs : (P.info? elem).map (·.size) = some size) (hn : cs.length = Nat.min sLen dLen * size)
    (hsrc : ∀ j v, cs[j]? = some v → w.cell? (a.add j) = some v) (hc : ∀ j, j < cs.length → (w.cell? ⟨b, o + j, none⟩).isSome = true) (hf : ∀ j, j < cs.length → w.frozen? ⟨b, o + j, none⟩ = false) (h1 : ∀ v ∈ cs, v.oneCell' = true) :
    (Builtin.copy_ #[dT, sT] ty #[.slice (some ⟨b, o, none⟩) dLen dCap, .slice (some a) sLen sCap]).run P w = .ok (goInt (Nat.min sLen dLen)) (w.setCells b o cs) := by
  have hl := run_loadCells_list (P := P) w a cs hsrc
  have hst := run_storeCells_cells (P := P) b o cs 0 w (by simpa using hc) (by simpa using hf) h1
  cases hq : P.info? elem with
  | none => simp [hq] at hs
  | some i =>
    have hi : i.size = size := by simpa [hq] using hs
    simp only [Nat.add_zero] at hst
    rw [hn] at hl
    simp [Builtin.copy_, run_underlying hu, Builtin.lenOf, Builtin.firstCells, sizeOf, typeInfo, hq, hi, hl, hst]
/-- copy into a block that is known whole -/
theorem run_copy_blk {P : Program} (w : World) (dT sT ty elem T : TypeId) (size : Nat) (g o dLen dCap : Nat) (a : Addr) (sLen sCap : Nat) (cs C : List Value)
    (hu : P.underlying dT = some (.slice elem)) (hs : (P.info? elem).map (·.size) = some size) (hn : cs.length = Nat.min sLen dLen * size)
    (hsrc : ∀ j v, cs[j]? = some v → w.cell? (a.add j) = some v) (hb : w.heap[g]? = some (.cells C.toArray T (0, 0))) (hfit : o + cs.length ≤ C.length) (h1 : ∀ v ∈ cs, v.oneCell' = true) :
    ∃ w', (Builtin.copy_ #[dT, sT] ty #[.slice (some ⟨g, o, none⟩) dLen dCap, .slice (some a) sLen sCap]).run P w = .ok (goInt (Nat.min sLen dLen)) w' ∧ w.grownBy w' (some g) ∧ w'.heap[g]? = some (.cells (C.take o ++ (cs ++ C.drop (o + cs.length))).toArray T (0, 0)) := by
  refine ⟨_, run_copyK w dT sT ty elem size g o dLen dCap a sLen sCap cs hu hs hn hsrc (fun j hj => ?_) (fun j hj => frozen_of_row w g _ _ T hb) h1, setCells_grown _ _ _ _, setCells_mid C o cs hb hfit⟩
  rw [cellsAt hb, List.getElem?_eq_getElem (by omega)]
  rfl
theorem wpList_copyR {P : Program} {w : World} {ops : Array Oper} {rest : List Oper} {o : Oper} {a : Act} {Q : Exit → Act → World → Prop} (hgd : o.guard = none) (d s : Operand) (t t' : TypeId)
    (ho : o.op = .call { callee := .builtin .copy, args := #[d, s], argTypes := #[t, t'] }) (v u : Value) (hd : a.eval d = v) (hs : a.eval s = u) {v' : Value} {w' : World}
    (hr : (Builtin.copy_ #[t, t'] o.type #[v, u]).run P w = .ok v' w') (h : wpList P ops Q rest (a.put o.dst v') w') : wpList P ops Q (o :: rest) a w := by
  refine wpList_plain hgd fun K hK => ?_
  unfold Oper.wp execOp
  simp only [ho, resolve, invoke, builtin, Sem.run_bind, Sem.run_pure, Result.andThen_ok, List.map_toArray, List.map_cons, List.map_nil, hd, hs, hr]
  exact hK _ _ h
theorem step_copyR {P : Program} {ops : Array Oper} {o : Oper} {a : Act} {w : World} {K : Act → World → Prop} {Q : Exit → Act → World → Prop} {E : Prop}
    (hg : o.guard = none) (d x : Operand) (dT sT : TypeId) (hop : o.op = Op.call { callee := Callee.builtin Builtin.copy, args := #[d, x], argTypes := #[dT, sT] })
    (v u : Value) (hd : a.eval d = v) (hx : a.eval x = u) {v' : Value} {w' : World} (hr : (Builtin.copy_ #[dT, sT] o.type #[v, u]).run P w = .ok v' w') (hK : K (a.put o.dst v') w') :
    if Region.wanted o (yielded ops a.tmps) = true then Oper.wp P o a w K Q else E := by
  have hw : Region.wanted o (yielded ops a.tmps) = true := by simp [Region.wanted, hg]
  rw [if_pos hw]
  unfold Oper.wp
  simp [execOp, hop, resolve, invoke, builtin, hd, hx, hr, Result.andThen]
  exact hK

/-- copy of a slice, the empty one too, to the head of a block -/
theorem run_copy_sl {P : Program} (w : World) (dT sT ty elem T : TypeId) (g dLen dCap n : Nat) (v : Value) (cs C : List Value) (ht : P.underlying sT = some (.slice elem))
    (hu : P.underlying dT = some (.slice elem)) (hs : (P.info? elem).map (·.size) = some 1) (hv : Sl w 1 v n cs) (hb : w.heap[g]? = some (.cells C.toArray T (0, 0))) (hnd : n ≤ dLen) (hfit : n ≤ C.length) (h1 : ∀ v ∈ cs, v.oneCell' = true) :
    ∃ w', (Builtin.copy_ #[dT, sT] ty #[.slice (some ⟨g, 0, none⟩) dLen dCap, v]).run P w = .ok (goInt n) w' ∧ w.grownBy w' (some g) ∧ w'.heap[g]? = some (.cells (cs ++ C.drop n).toArray T (0, 0)) := by
  obtain ⟨hl, ao, cap, rfl, h2, h3, h4, h5⟩ := hv
  have hln : cs.length = n := by omega
  cases ao with
  | none =>
    have hc0 := h4 rfl
    obtain rfl : n = 0 := by omega
    obtain rfl : cs = [] := List.eq_nil_of_length_eq_zero hln
    refine ⟨w, ?_, World.grownBy.refl _ _, by simpa using hb⟩
    obtain ⟨i, hi, hsz⟩ : ∃ i, P.info? elem = some i ∧ i.size = 1 := by
      cases hq : P.info? elem with
      | none => simp [hq] at hs
      | some i => exact ⟨i, rfl, by simpa [hq] using hs⟩
    simp [Builtin.copy_, run_underlying hu, Builtin.lenOf, Builtin.firstCells, sizeOf, typeInfo, hi, loadCells, loadCellsFrom, storeCells, run_underlying ht]
  | some ad =>
    obtain ⟨hsp, hc⟩ := h5 _ rfl
    obtain ⟨b, off, spot⟩ := ad
    simp at hsp
    subst hsp
    have hmin : Nat.min n dLen = n := Nat.min_eq_left hnd
    obtain ⟨w', r1, r2, r3⟩ := run_copy_blk (P := P) w dT sT ty elem T 1 g 0 dLen dCap ⟨b, off, none⟩ n cap cs C hu hs (by rw [hmin]; omega) (fun j u hu => by rw [Addr.add_lit]; exact hc j u hu) hb (by omega) h1
    rw [hmin] at r1
    refine ⟨w', r1, r2, ?_⟩
    rw [r3, hln]
    simp
theorem wpList_copySl {P : Program} {w : World} {ops : Array Oper} {rest : List Oper} {o : Oper} {a : Act} {Q : Exit → Act → World → Prop} (hgd : o.guard = none) (d s : Operand) (dT sT elem T : TypeId)
    (ho : o.op = .call { callee := .builtin .copy, args := #[d, s], argTypes := #[dT, sT] }) (g dLen dCap n : Nat) (v : Value) (cs C : List Value) (ht : P.underlying sT = some (.slice elem)) (hu : P.underlying dT = some (.slice elem)) (hs : (P.info? elem).map (·.size) = some 1)
    (hd : a.eval d = .slice (some ⟨g, 0, none⟩) dLen dCap) (hx : a.eval s = v) (hv : Sl w 1 v n cs) (hb : w.heap[g]? = some (.cells C.toArray T (0, 0))) (hnd : n ≤ dLen) (hfit : n ≤ C.length) (h1 : ∀ v ∈ cs, v.oneCell' = true)
    (h : ∀ w', w.grownBy w' (some g) → w'.heap[g]? = some (.cells (cs ++ C.drop n).toArray T (0, 0)) → wpList P ops Q rest (a.put o.dst (goInt n)) w') : wpList P ops Q (o :: rest) a w := by
  obtain ⟨w', r1, r2, r3⟩ := run_copy_sl (P := P) w dT sT o.type elem T g dLen dCap n v cs C ht hu hs hv hb hnd hfit h1
  exact wpList_copyR hgd d s dT sT ho _ _ hd hx r1 (h w' r2 r3)
theorem Sl.kn {w w' : World} {sz : Nat} {v : Value} {n : Nat} {xs : List Value} (h : Sl w sz v n xs) (hg : w.grownBy w' none) : Sl w' sz v n xs := h.kept hg (by cases v.ownBlock <;> simp)
/-- a part of a slice -/
theorem run_slice_sl {P : Program} {t e : TypeId} {sz : Nat} (ht : P.underlying t = some (.slice e)) (hs : (P.info? e).map (·.size) = some sz) {w : World} {ao : Option Addr} {n cap : Nat} {xs : List Value} (h : Sl w sz (.slice ao n cap) n xs)
    (lo hi : Nat) (l u : Option Value) (hl : l = some (.int .i64 lo) ∨ (l = none ∧ lo = 0)) (hu : u = some (.int .i64 hi) ∨ (u = none ∧ hi = n)) (h1 : lo ≤ hi) (h2 : hi ≤ n) :
    ∃ ao' cap', (∀ w', (Instr.sliceAt t (.slice ao n cap) l u none).run P w' = .ok (.slice ao' (hi - lo) cap') w') ∧ Sl w sz (.slice ao' (hi - lo) cap') (hi - lo) ((xs.drop (lo * sz)).take ((hi - lo) * sz)) ∧ (∀ b, (Value.slice ao' (hi - lo) cap').ownBlock = some b → (Value.slice ao n cap).ownBlock = some b) := by
  obtain ⟨hlx, ao0, cap0, hv, h3, h4, h5, h6⟩ := h
  simp only [Value.slice.injEq] at hv
  obtain ⟨rfl, _, rfl⟩ := hv
  obtain ⟨i, hi', hsz⟩ : ∃ i, P.info? e = some i ∧ i.size = sz := by
    cases hq : P.info? e with
    | none => simp [hq] at hs
    | some i => exact ⟨i, rfl, by simpa [hq] using hs⟩
  refine ⟨if cap = lo then ao else ao.map (·.add (lo * sz)), cap - lo, ?_, ⟨?_, ?_⟩, ?_⟩
  · intro w'
    have a1 : ¬ ((cap : Int) < (hi : Int)) := by omega
    have a2 : ¬ ((hi : Int) < (lo : Int)) := by omega
    have a3 : (0 : Int) ≤ (hi : Int) := by omega
    have a4 : (0 : Int) ≤ (lo : Int) := by omega
    have a5 : (hi : Int) ≤ (cap : Int) := by omega
    have a6 : (lo : Int) ≤ (hi : Int) := by omega
    rcases hl with rfl | ⟨rfl, rfl⟩ <;> rcases hu with rfl | ⟨rfl, rfl⟩ <;> simp [Instr.sliceAt, Instr.slice, Instr.sliceBounds, Instr.sliceBound, run_underlying ht, sizeOf, typeInfo, hi', hsz, asIntOf, h1, h2, show hi ≤ cap by omega]
  · rw [List.length_take, List.length_drop, hlx, ← Nat.sub_mul]
    apply Nat.min_eq_left
    exact Nat.mul_le_mul_right _ (by omega)
  · refine ⟨_, _, rfl, by omega, by omega, fun h => ?_, fun a ha => ?_⟩
    · split at h
      · have := h5 h; omega
      · cases ao with
        | none => have := h5 rfl; omega
        | some b => cases h
    · split at ha
      · rename_i hcl
        subst ha
        refine ⟨(h6 a rfl).1, fun j v hj => ?_⟩
        have : hi - lo = 0 := by omega
        rw [this, Nat.zero_mul, List.take_zero] at hj
        cases hj
      · cases ao with
        | none => cases ha
        | some b =>
          obtain ⟨q1, q2⟩ := h6 b rfl
          obtain rfl := Option.some.inj ha
          have hadd : (b.add (lo * sz)).spot = none ∧ (b.add (lo * sz)).block = b.block ∧ (b.add (lo * sz)).off = b.off + lo * sz := by
            unfold Addr.add
            split
            · rename_i h0; rw [h0]; exact ⟨q1, rfl, rfl⟩
            · exact ⟨rfl, rfl, rfl⟩
          refine ⟨hadd.1, fun j v hj => ?_⟩
          have hjl := (List.getElem?_eq_some_iff.1 hj).1
          rw [List.length_take] at hjl
          rw [hadd.2.1, hadd.2.2, Nat.add_assoc]
          refine q2 (lo * sz + j) v ?_
          rw [← hj, List.getElem?_take, if_pos (by omega), List.getElem?_drop]
  · intro b hb
    cases ao with
    | none =>
      simp only [Option.map_none, ite_self] at hb
      simp [Value.ownBlock] at hb
    | some a =>
      obtain ⟨q1, q2⟩ := h6 a rfl
      have hadd : (a.add (lo * sz)).block = a.block := by
        unfold Addr.add
        split <;> rfl
      split at hb
      · simpa [Value.ownBlock] using hb
      · simpa [Value.ownBlock, hadd] using hb
/-- the head of a slice, at the same place -/
theorem Sl.head {w : World} {ao : Option Addr} {n cap k : Nat} {l : List Nat} (h : Sl w 1 (.slice ao n cap) n (bv l)) (hk : k ≤ n) : Sl w 1 (.slice ao k cap) k (bv (l.take k)) := by
  obtain ⟨hlx, ao0, cap0, hv, h3, h4, h5, h6⟩ := h
  simp only [Value.slice.injEq] at hv
  obtain ⟨rfl, _, rfl⟩ := hv
  rw [bv_length] at hlx
  refine ⟨by rw [bv_length, List.length_take]; omega, _, _, rfl, by omega, h4, h5, fun a ha => ⟨(h6 a ha).1, fun j u hu => (h6 a ha).2 j u ?_⟩⟩
  have hj := (List.getElem?_eq_some_iff.1 hu).1
  rw [bv_length, List.length_take] at hj
  rw [← hu]
  unfold bv
  rw [List.getElem?_map, List.getElem?_map, List.getElem?_take, if_pos (by omega)]
theorem wpList_sliceR {P : Program} {w : World} {ops : Array Oper} {rest : List Oper} {o : Oper} {a : Act} {Q : Exit → Act → World → Prop} (hgd : o.guard = none) (t : TypeId) (x : Operand) (lo hi : Option Operand)
    (ho : o.op = .slice t x lo hi none) (vx : Value) (hx : a.eval x = vx) (l u : Option Value) (hl : lo.map a.eval = l) (hu : hi.map a.eval = u) {v : Value}
    (hr : (Instr.sliceAt t vx l u none).run P w = .ok v w) (h : wpList P ops Q rest (a.put o.dst v) w) : wpList P ops Q (o :: rest) a w := by
  refine wpList_plain hgd fun K hK => ?_
  unfold Oper.wp execOp
  simp only [ho, Sem.run_bind, Sem.run_pure, Result.andThen_ok, hx, hl, hu, Option.map_none, hr]
  exact hK _ _ h
end Go.Proofs.Yteakoleceoclkaa
