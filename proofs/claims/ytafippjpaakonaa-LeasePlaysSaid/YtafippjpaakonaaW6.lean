/- Rows of cells at single operations: store of an element, copy, clear, append where there is room. -/
import Derived.Test.YtafippjpaakonaaW5
import Derived.Lib.AppendZerosOnto
import Derived.Lib.Overlaps
import Derived.Lib.SliceRun
import Derived.Laws.Externs
import Derived.Laws.IdiomCopy
import Derived.Deep.RegionLaw
namespace Go.Proofs.Ytafippjpaakonaa
open Go.RowKit
set_option linter.unusedSimpArgs false
set_option linter.unusedVariables false

/-- an owned row of fewer elements -/
theorem Own.less {w : World} {e : TypeId} {sz g n cap i : Nat} {xs : List Value} (h : Own w e sz (.slice (some ⟨g, 0, none⟩) n cap) n xs) (hi : i ≤ n) : Own w e sz (.slice (some ⟨g, 0, none⟩) i cap) i (xs.take (i * sz)) := by
  obtain ⟨hl, h2⟩ := h
  rcases h2 with ⟨h3, _⟩ | ⟨g', cap', cur, h3, hb, hg, hnc, hcm, hcs, ht⟩
  · cases h3
  · simp only [Value.slice.injEq, Option.some.injEq, Addr.mk.injEq, and_true] at h3
    obtain ⟨rfl, _, rfl⟩ := h3
    have hm : i * sz ≤ n * sz := Nat.mul_le_mul_right _ hi
    refine ⟨by rw [List.length_take, hl]; omega, .inr ⟨g, cap, cur, rfl, hb, hg, Nat.le_trans hi hnc, hcm, hcs, ?_⟩⟩
    rw [← ht, List.take_take, Nat.min_eq_left hm]
theorem Own.blk {w : World} {e : TypeId} {sz g n cap : Nat} {xs : List Value} (h : Own w e sz (.slice (some ⟨g, 0, none⟩) n cap) n xs) : ∃ C : List Value, w.heap[g]? = some (.cells C.toArray e (0, 0)) ∧ n ≤ cap ∧ cap ≤ maxLen ∧ C.length = cap * sz ∧ C.take (n * sz) = xs := by
  obtain ⟨hl, h2⟩ := h
  rcases h2 with ⟨h3, _⟩ | ⟨g', cap', cur, h3, hb, hg, hnc, hcm, hcs, ht⟩
  · cases h3
  · simp only [Value.slice.injEq, Option.some.injEq, Addr.mk.injEq, and_true] at h3
    obtain ⟨rfl, _, rfl⟩ := h3
    exact ⟨cur.toList, by simpa using hg, hnc, hcm, by simpa using hcs, ht⟩
theorem Own.mk' {w : World} {e : TypeId} {sz g n cap : Nat} {xs C : List Value} (h1 : w.heap[g]? = some (.cells C.toArray e (0, 0))) (h2 : n ≤ cap) (h3 : cap ≤ maxLen) (h4 : C.length = cap * sz) (h5 : C.take (n * sz) = xs) : Own w e sz (.slice (some ⟨g, 0, none⟩) n cap) n xs := by
  have hm : n * sz ≤ cap * sz := Nat.mul_le_mul_right _ h2
  exact ⟨by rw [← h5, List.length_take]; omega, .inr ⟨g, cap, C.toArray, rfl, Nat.zero_le _, h1, h2, h3, by simpa using h4, by simpa using h5⟩⟩
theorem Own.shp {w : World} {e : TypeId} {sz n : Nat} {v : Value} {xs : List Value} (h : Own w e sz v n xs) (hn : 0 < n) : ∃ g cap, v = .slice (some ⟨g, 0, none⟩) n cap := by
  rcases h.2 with ⟨_, h3⟩ | ⟨g, cap, cur, h3, _⟩
  · omega
  · exact ⟨g, cap, h3⟩
theorem cellsAt {w : World} {g : Nat} {C : List Value} {t : TypeId} (h : w.heap[g]? = some (.cells C.toArray t (0, 0))) (j : Nat) : w.cell? ⟨g, j, none⟩ = C[j]? := by rw [cell_of_row _ _ _ _ _ _ h]; simp

/-- what copy does, whatever the size of an element -/
theorem run_copyK {P : Program} (w : World) (dT sT ty elem : TypeId) (size : Nat) (b o dLen dCap : Nat) (a : Addr) (sLen sCap : Nat) (cs : List Value)
    (hu : P.underlying dT = some (.slice elem)) (hs : (P.info? elem).map (·.size) = some size) (hn : cs.length = Nat.min sLen dLen * size)
    (hsrc : ∀ j v, cs[j]? = some v → w.cell? (a.add j) = some v) (hc : ∀ j, j < cs.length → (w.cell? ⟨b, o + j, none⟩).isSome = true) (hf : ∀ j, j < cs.length → w.frozen? ⟨b, o + j, none⟩ = false) (h1 : ∀ v ∈ cs, v.oneCell' = true) :
    (Builtin.copy_ #[dT, sT] ty #[.slice (some ⟨b, o, none⟩) dLen dCap, .slice (some a) sLen sCap]).run P w = .ok (goInt (Nat.min sLen dLen)) (w.setCells b o cs) := by
  have hl := run_loadCells_list (P := P) w a cs hsrc
  have hst := run_storeCells_cells (P := P) b o cs 0 w (by simpa using hc) (by simpa using hf) h1
  cases hq : P.info? elem with
  | none => simp [hq] at hs
  | some i =>
    have hi : i.size = size := by simpa [hq] using hs
    simp only [Nat.add_zero] at hst
    rw [hn] at hl
    simp [Builtin.copy_, run_underlying hu, Builtin.lenOf, Builtin.firstCells, sizeOf, typeInfo, hq, hi, hl, hst]
/-- copy into a block that is known whole -/
theorem run_copy_blk {P : Program} (w : World) (dT sT ty elem : TypeId) (size : Nat) (g o dLen dCap : Nat) (a : Addr) (sLen sCap : Nat) (cs C : List Value)
    (hu : P.underlying dT = some (.slice elem)) (hs : (P.info? elem).map (·.size) = some size) (hn : cs.length = Nat.min sLen dLen * size)
    (hsrc : ∀ j v, cs[j]? = some v → w.cell? (a.add j) = some v) (hb : w.heap[g]? = some (.cells C.toArray elem (0, 0))) (hfit : o + cs.length ≤ C.length) (h1 : ∀ v ∈ cs, v.oneCell' = true) :
    ∃ w', (Builtin.copy_ #[dT, sT] ty #[.slice (some ⟨g, o, none⟩) dLen dCap, .slice (some a) sLen sCap]).run P w = .ok (goInt (Nat.min sLen dLen)) w' ∧ w.grownBy w' (some g) ∧ w'.heap[g]? = some (.cells (C.take o ++ (cs ++ C.drop (o + cs.length))).toArray elem (0, 0)) := by
  refine ⟨_, run_copyK w dT sT ty elem size g o dLen dCap a sLen sCap cs hu hs hn hsrc (fun j hj => ?_) (fun j hj => frozen_of_row w g _ _ elem hb) h1, setCells_grown _ _ _ _, setCells_mid C o cs hb hfit⟩
  rw [cellsAt hb, List.getElem?_eq_getElem (by omega)]
  rfl
theorem wpList_copyR {P : Program} {w : World} {ops : Array Oper} {rest : List Oper} {o : Oper} {a : Act} {Q : Exit → Act → World → Prop} (hgd : o.guard = none) (d s : Operand) (t t' : TypeId)
    (ho : o.op = .call { callee := .builtin .copy, args := #[d, s], argTypes := #[t, t'] }) (v u : Value) (hd : a.eval d = v) (hs : a.eval s = u) {v' : Value} {w' : World}
    (hr : (Builtin.copy_ #[t, t'] o.type #[v, u]).run P w = .ok v' w') (h : wpList P ops Q rest (a.put o.dst v') w') : wpList P ops Q (o :: rest) a w := by
  refine wpList_plain hgd fun K hK => ?_
  unfold Oper.wp execOp
  simp only [ho, resolve, invoke, builtin, Sem.run_bind, Sem.run_pure, Result.andThen_ok, List.map_toArray, List.map_cons, List.map_nil, hd, hs, hr]
  exact hK _ _ h
theorem step_copyR {P : Program} {ops : Array Oper} {o : Oper} {a : Act} {w : World} {K : Act → World → Prop} {Q : Exit → Act → World → Prop} {E : Prop}
    (hg : o.guard = none) (d x : Operand) (dT sT : TypeId) (hop : o.op = Op.call { callee := Callee.builtin Builtin.copy, args := #[d, x], argTypes := #[dT, sT] })
    (v u : Value) (hd : a.eval d = v) (hx : a.eval x = u) {v' : Value} {w' : World} (hr : (Builtin.copy_ #[dT, sT] o.type #[v, u]).run P w = .ok v' w') (hK : K (a.put o.dst v') w') :
    if Region.wanted o (yielded ops a.tmps) = true then Oper.wp P o a w K Q else E := by
  have hw : Region.wanted o (yielded ops a.tmps) = true := by simp [Region.wanted, hg]
  rw [if_pos hw]
  unfold Oper.wp
  simp [execOp, hop, resolve, invoke, builtin, hd, hx, hr, Result.andThen]
  exact hK
/-- clear behind what a row owns -/
theorem run_clear_blk {P : Program} {t e : TypeId} {z : Value} {size bytes : Nat} (E : ET P t e z size bytes) (hv : ∀ w, (zeroValue e).run P w = .ok z w) (h1 : ∀ v ∈ z.cells.toList, v.oneCell' = true) (ty : TypeId) (w : World)
    (g m cap i c cc : Nat) (ao : Option Addr) (xs : List Value) (hown : Own w e size (.slice (some ⟨g, 0, none⟩) m cap) m xs) (hao : 0 < c → ao = some ⟨g, i * size, none⟩) (hmi : m ≤ i) (hic : i + c ≤ cap) :
    ∃ w', (Builtin.clear_ #[t] ty #[.slice ao c cc]).run P w = .ok (.tuple #[]) w' ∧ w.grownBy w' (some g) ∧ Own w' e size (.slice (some ⟨g, 0, none⟩) m cap) m xs := by
  by_cases hc : c = 0
  · subst hc
    refine ⟨w, ?_, World.grownBy.refl _ _, hown⟩
    cases ao <;> simp [Builtin.clear_, run_underlying E.und]
  · have hao := hao (by omega)
    subst hao
    obtain ⟨C, hb, hnc, hcm, hcl, hct⟩ := hown.blk
    have hzl : (Builtin.zeroCells z.cells c).toList.length = c * size := by simp [Builtin.zeroCells, E.zsz]
    have h1z : ∀ v ∈ (Builtin.zeroCells z.cells c).toList, v.oneCell' = true := by
      intro v hv'
      simp only [Builtin.zeroCells, Array.toList_map, List.mem_map] at hv'
      obtain ⟨j, _, rfl⟩ := hv'
      have hp := E.pos
      have hjm : j % z.cells.size < z.cells.size := Nat.mod_lt _ (by rw [E.zsz]; exact hp)
      rw [getElem!_pos z.cells _ hjm]
      exact h1 _ (by simp)
    have hfit : i * size + c * size ≤ C.length := by rw [hcl, ← Nat.add_mul]; exact Nat.mul_le_mul_right _ hic
    have hst := run_storeCells_cells (P := P) g (i * size) (Builtin.zeroCells z.cells c).toList 0 w (fun j hj => by
      rw [cellsAt hb, List.getElem?_eq_getElem (by omega)]; rfl) (fun j hj => frozen_of_row w g _ _ e hb) h1z
    simp only [Nat.add_zero] at hst
    have hm := setCells_mid C (i * size) (Builtin.zeroCells z.cells c).toList hb (by rw [hzl]; exact hfit)
    refine ⟨w.setCells g (i * size) (Builtin.zeroCells z.cells c).toList, ?_, setCells_grown _ _ _ _, Own.mk' hm hnc hcm ?_ ?_⟩
    · obtain ⟨k, rfl⟩ : ∃ k, c = k + 1 := ⟨c - 1, by omega⟩
      simp [Builtin.clear_, run_underlying E.und, hv, hst]
    · have e1 : min (i * size) C.length = i * size := by omega
      simp only [List.length_append, List.length_take, List.length_drop, hzl, e1]
      omega
    · have h2 : m * size ≤ i * size := Nat.mul_le_mul_right _ hmi
      rw [List.take_append_of_le_length (by rw [List.length_take]; omega), List.take_take, Nat.min_eq_left h2, hct]
theorem wpList_clearR {P : Program} {w : World} {ops : Array Oper} {rest : List Oper} {o : Oper} {a : Act} {Q : Exit → Act → World → Prop} (hgd : o.guard = none) (s : Operand) (t : TypeId)
    (ho : o.op = .call { callee := .builtin .clear, args := #[s], argTypes := #[t] }) (v : Value) (hs : a.eval s = v) {v' : Value} {w' : World}
    (hr : (Builtin.clear_ #[t] o.type #[v]).run P w = .ok v' w') (h : wpList P ops Q rest (a.put o.dst v') w') : wpList P ops Q (o :: rest) a w := by
  refine wpList_plain hgd fun K hK => ?_
  unfold Oper.wp execOp
  simp only [ho, resolve, invoke, builtin, Sem.run_bind, Sem.run_pure, Result.andThen_ok, List.map_toArray, List.map_cons, List.map_nil, hs, hr]
  exact hK _ _ h
/-- append where there is room: the same row -/
theorem run_app_room {P : Program} {t e : TypeId} {z : Value} {size bytes : Nat} (E : ET P t e z size bytes) (ty : TypeId) {w : World} {g n cap : Nat} {xs : List Value} (hown : Own w e size (.slice (some ⟨g, 0, none⟩) n cap) n xs)
    {sv : Value} {m : Nat} {news : List Value} (hs : Sl w size sv m news) (h1 : news.all Value.oneCell' = true) (hroom : n + m ≤ cap) (h63 : n + m ≤ 1099511627776) :
    ∃ w', (Builtin.append_ #[t, t] ty #[.slice (some ⟨g, 0, none⟩) n cap, sv]).run P w = .ok (.slice (some ⟨g, 0, none⟩) (n + m) cap) w' ∧ Own w' e size (.slice (some ⟨g, 0, none⟩) (n + m) cap) (n + m) (xs ++ news) ∧ w.grownBy w' (some g) := by
  obtain ⟨v', w', hr, hown', hst⟩ := run_app E ty hown hs h1 h63
  obtain ⟨i, hi, hz, rfl, hby⟩ := E.inf
  obtain ⟨hl, ao, cap2, rfl, hm1, hm2, h3, h4⟩ := hs
  cases ao with
  | none =>
    obtain rfl := h3 rfl
    obtain rfl : m = 0 := by omega
    have hr2 := run_append_owned_none (P := P) w 0 t ty e i i.size E.und hi (.slice (some ⟨g, 0, none⟩) n cap) n xs hown
    rw [hr2] at hr
    simp only [Result.ok.injEq] at hr
    obtain ⟨rfl, rfl⟩ := hr
    exact ⟨_, hr2, hown', World.grownBy.refl _ _⟩
  | some ad =>
    obtain ⟨b, off, spot⟩ := ad
    obtain ⟨hsp, hc⟩ := h4 _ rfl
    simp at hsp
    subst hsp
    have hc' : ∀ j u, news[j]? = some u → w.cell? ((⟨b, off, none⟩ : Addr).add j) = some u := by
      intro j u hj
      rw [Addr.add_lit]
      exact hc j u hj
    obtain ⟨C, hb, hnc, hcm, hcl, hct⟩ := hown.blk
    have hr2 := run_append_room (P := P) w t ty e i E.und hi g n cap C.toArray hb ⟨b, off, none⟩ m cap2 news hl hc' (List.all_eq_true.1 h1) hroom (by simp only [List.size_toArray]; rw [hl, hcl, ← Nat.add_mul]; exact Nat.mul_le_mul_right _ hroom)
    have hr3 := hr2
    rw [hr] at hr2
    simp only [Result.ok.injEq] at hr2
    obtain ⟨rfl, hw⟩ := hr2
    refine ⟨w', hr, hown', hst.1⟩
theorem wpList_appR {P : Program} {w : World} {ops : Array Oper} {rest : List Oper} {o : Oper} {a : Act} {Q : Exit → Act → World → Prop} (hgd : o.guard = none) (s x : Operand) (t t' : TypeId)
    (ho : o.op = .call { callee := .builtin .append, args := #[s, x], argTypes := #[t, t'] }) (v u : Value) (hs : a.eval s = v) (hx : a.eval x = u) {v' : Value} {w' : World}
    (hr : (Builtin.append_ #[t, t'] o.type #[v, u]).run P w = .ok v' w') (h : wpList P ops Q rest (a.put o.dst v') w') : wpList P ops Q (o :: rest) a w := by
  refine wpList_plain hgd fun K hK => ?_
  unfold Oper.wp execOp
  simp only [ho, resolve, invoke, builtin, Sem.run_bind, Sem.run_pure, Result.andThen_ok, List.map_toArray, List.map_cons, List.map_nil, hs, hx, hr]
  exact hK _ _ h
theorem step_appR {P : Program} {ops : Array Oper} {o : Oper} {a : Act} {w : World} {K : Act → World → Prop} {Q : Exit → Act → World → Prop} {E : Prop}
    (hg : o.guard = none) (s x : Operand) (t t' : TypeId) (hop : o.op = Op.call { callee := Callee.builtin Builtin.append, args := #[s, x], argTypes := #[t, t'] })
    (v u : Value) (hs : a.eval s = v) (hx : a.eval x = u) {v' : Value} {w' : World} (hr : (Builtin.append_ #[t, t'] o.type #[v, u]).run P w = .ok v' w') (hK : K (a.put o.dst v') w') :
    if Region.wanted o (yielded ops a.tmps) = true then Oper.wp P o a w K Q else E := by
  have hw : Region.wanted o (yielded ops a.tmps) = true := by simp [Region.wanted, hg]
  rw [if_pos hw]
  unfold Oper.wp
  simp [execOp, hop, resolve, invoke, builtin, hs, hx, hr, Result.andThen]
  exact hK
theorem take_mid {α : Type} (C X : List α) (i n : Nat) (hx : X.length = 4) (hi : i < n) (hC : n * 4 ≤ C.length) :
    (C.take (i * 4) ++ (X ++ C.drop (i * 4 + X.length))).take (n * 4) = C.take (i * 4) ++ (X ++ (C.take (n * 4)).drop ((i + 1) * 4)) := by
  have q1 : (C.take (i * 4)).length = i * 4 := by rw [List.length_take]; omega
  have a1 : ((C.take (i * 4)) ++ (X ++ C.drop (i * 4 + X.length))).take ((C.take (i * 4)).length + (X.length + (n - i - 1) * 4)) = C.take (i * 4) ++ (X ++ (C.drop (i * 4 + X.length)).take ((n - i - 1) * 4)) := by
    rw [List.take_length_add_append, List.take_length_add_append]
  rw [q1, hx, show i * 4 + (4 + (n - i - 1) * 4) = n * 4 by omega] at a1
  rw [hx, a1, List.take_drop, show i * 4 + 4 + (n - i - 1) * 4 = n * 4 by omega, show (i + 1) * 4 = i * 4 + 4 by omega]
/-- one element of an owned row is stored -/
theorem Own.put {w w' : World} {g n cap i : Nat} {l : List Ls} (h : Own w 38 4 (.slice (some ⟨g, 0, none⟩) n cap) n (l.flatMap lcells)) (hi : i < n) (x : Ls)
    (hb : ∀ C : List Value, w.heap[g]? = some (.cells C.toArray 38 (0, 0)) → w'.heap[g]? = some (.cells (C.take (i * 4) ++ (lcells x ++ C.drop (i * 4 + (lcells x).length))).toArray 38 (0, 0))) :
    Own w' 38 4 (.slice (some ⟨g, 0, none⟩) n cap) n ((l.set i x).flatMap lcells) := by
  obtain ⟨C, h1, h2, h3, h4, h5⟩ := h.blk
  have hx : (lcells x).length = 4 := rfl
  have hC : (i + 1) * 4 ≤ C.length := by rw [h4]; omega
  refine Own.mk' (hb C h1) h2 h3 (by simp only [List.length_append, List.length_take, List.length_drop, hx]; omega) ?_
  have hl : l.length = n := by have := h.1; rw [lcells_len] at this; omega
  have e1 : l.set i x = l.take i ++ x :: l.drop (i + 1) := by rw [List.set_eq_take_append_cons_drop, if_pos (by omega)]
  have e2 : ∀ k, k ≤ n → (l.take k).flatMap lcells = C.take (k * 4) := by
    intro k hk
    have : l.flatMap lcells = (l.take k).flatMap lcells ++ (l.drop k).flatMap lcells := by rw [← List.flatMap_append, List.take_append_drop]
    have h6 : C.take (k * 4) = (l.flatMap lcells).take (k * 4) := by rw [← h5, List.take_take, Nat.min_eq_left (by omega)]
    rw [h6, this, List.take_left' (by rw [lcells_len, List.length_take]; omega)]
  have e3 : (l.drop (i + 1)).flatMap lcells = (C.take (n * 4)).drop ((i + 1) * 4) := by
    have : l.flatMap lcells = (l.take (i + 1)).flatMap lcells ++ (l.drop (i + 1)).flatMap lcells := by rw [← List.flatMap_append, List.take_append_drop]
    rw [h5, this, List.drop_left' (by rw [lcells_len, List.length_take]; omega)]
  rw [e1, List.flatMap_append, List.flatMap_cons, e2 i (by omega), e3]
  exact take_mid C (lcells x) i n hx hi (by rw [h4]; omega)
end Go.Proofs.Ytafippjpaakonaa
