/- The evaluator: a step of a walk over a map. -/
import Derived.Test.YtbddollbjajcnaaGreatX28
namespace Go.Proofs.YtbddollbjajcnaaGreat
open Go
noncomputable section
set_option linter.unusedVariables false
set_option linter.unusedSimpArgs false
variable {P : Program}
abbrev XEnt := XV × XV × Nat
def leftX (seen : List Nat) : List XEnt → List XEnt
  | [] => []
  | e :: r => bif memN e.2.2 seen then leftX seen r else e :: leftX seen r
def allGe (n : Nat) : List XEnt → Bool
  | [] => true
  | e :: r => bif Nat.ble n e.2.2 then allGe n r else false
def allLt (n : Nat) : List XEnt → Bool
  | [] => true
  | e :: r => bif Nat.blt e.2.2 n then allLt n r else false
def guardX (seen : List Nat) (es : List XEnt) (st : Nat) : Bool :=
  match seen with
  | [] => false
  | _ => match es with
    | [] => false
    | _ => allGe st es
def outsX (s : XS) (b m : XP) (since : Nat) (seen : List Nat) (clock : Nat) : List XEnt → Option (List (XV × XS))
  | [] => some []
  | e :: r => ob (wrapX e.1) fun k => ob (wrapX e.2.1) fun v => ob (outsX s b m since seen clock r) fun l =>
    some ((.tup [(false, [.bool true]), k, v], ⟨XT.put (some (.iter (some m) since (List.append seen [e.2.2]) clock)) b s.heap, s.next, s.k⟩) :: l)
def overX (s : XS) : List (XV × XS) := [(.tup [(false, [.bool false])], s)]
def nextX (s : XS) (b : XP) : Option (List (XV × XS)) :=
  match XT.get b s.heap with
  | some (.iter none _ _ _) => some (overX s)
  | some (.iter (some m) since seen st) => match XT.get m s.heap with
    | some (.map es clock) => match guardX seen es st with
      | true => none
      | false => match leftX seen es with
        | [] => some (overX s)
        | left => bif allLt since left then (bif s.may b then outsX s b m since seen clock left else none) else none
    | _ => none
  | _ => none
theorem leftX_ok {α : XM} {seen : List Nat} : ∀ {es : List XEnt} {ms : List MapEntry}, F2 (ER α) es ms → F2 (ER α) (leftX seen es) (ms.filter fun e => !seen.contains e.born)
  | [], _, .nil => .nil
  | e :: es, m :: ms, .cons h t => by
    have ih := leftX_ok (seen := seen) t
    unfold leftX
    rw [List.filter_cons, h.2.2, ← memN_ok]
    cases memN e.2.2 seen with
    | true => exact ih
    | false => exact .cons h ih
theorem allGe_ok {α : XM} {n : Nat} : ∀ {es : List XEnt} {ms : List MapEntry}, F2 (ER α) es ms → allGe n es = ms.all fun e => decide (e.born ≥ n)
  | [], _, .nil => rfl
  | e :: es, m :: ms, .cons h t => by
    unfold allGe
    rw [List.all_cons, h.2.2, allGe_ok t]
    cases hb : Nat.ble n e.2.2 with
    | true => have := Nat.le_of_ble_eq_true hb; simp [this]
    | false =>
      have : ¬ n ≤ e.2.2 := fun q => by rw [Nat.ble_eq_true_of_le q] at hb; cases hb
      have h2 : ¬ e.2.2 ≥ n := this
      simp [h2]
theorem allLt_ok {α : XM} {n : Nat} : ∀ {es : List XEnt} {ms : List MapEntry}, F2 (ER α) es ms → allLt n es = true → ∀ m ∈ ms, m.born < n
  | [], _, .nil, _, m, hm => by cases hm
  | e :: es, m :: ms, .cons h t, ha, x, hx => by
    obtain ⟨h1, h2⟩ := bif_false ha
    rcases List.mem_cons.1 hx with rfl | hx
    · rw [h.2.2]; exact blt_lt h1
    · exact allLt_ok t h2 x hx
theorem outsX_ok {s : XS} {b m : XP} {since : Nat} {seen : List Nat} {clock : Nat} : ∀ {es : List XEnt} {outs : List (XV × XS)}, outsX s b m since seen clock es = some outs → ∀ (j : Nat) (e : XEnt), es[j]? = some e → ∃ k v, wrapX e.1 = some k ∧ wrapX e.2.1 = some v ∧ (XV.tup [(false, [.bool true]), k, v], (⟨XT.put (some (.iter (some m) since (seen ++ [e.2.2]) clock)) b s.heap, s.next, s.k⟩ : XS)) ∈ outs
  | [], outs, h, j, e, he => by simp at he
  | x :: r, outs, h, j, e, he => by
    obtain ⟨k, h1, h⟩ := ob_some h
    obtain ⟨v, h2, h⟩ := ob_some h
    obtain ⟨l, h3, h⟩ := ob_some h
    cases h
    cases j with
    | zero => simp at he; subst he; exact ⟨k, v, h1, h2, List.mem_cons_self⟩
    | succ j =>
      obtain ⟨k', v', q1, q2, q3⟩ := outsX_ok h3 j e (by simpa using he)
      exact ⟨k', v', q1, q2, List.mem_cons_of_mem _ q3⟩
theorem run_next {w : World} {r : Nat} {lm : Nat} {since st clock : Nat} {seen : List Nat} {ms : Array MapEntry} {ty : TypeId} (h1 : w.heap[r]? = some (.mapIter (some lm) since seen.toArray st)) (h2 : w.heap[lm]? = some (.map ms clock))
    (hg : (!seen.isEmpty && !ms.isEmpty && ms.toList.all fun e => decide (e.born ≥ st)) = false) (hold : ∀ e ∈ ms.toList.filter (fun e => !seen.contains e.born), e.born < since) :
    (ms.toList.filter (fun e => !seen.contains e.born) = [] → (Instr.next (.pointer (some ⟨r, 0, none⟩)) false ty).run P w = .ok (.tuple #[.bool false]) w) ∧
    (ms.toList.filter (fun e => !seen.contains e.born) ≠ [] → ∃ (j : Nat) (e : MapEntry) (w' : World), (ms.toList.filter (fun e => !seen.contains e.born))[j]? = some e ∧ (w' = w ∨ w' = w.drew) ∧
      (Instr.next (.pointer (some ⟨r, 0, none⟩)) false ty).run P w = .ok (.tuple #[.bool true, e.key, e.val]) { w' with heap := w'.heap.setIfInBounds r (.mapIter (some lm) since (seen.toArray.push e.born) clock) }) := by
  have g1 : (getObj r).run P w = .ok (.mapIter (some lm) since seen.toArray st) w := by simp [getObj, Sem.run, h1]
  have g2 : (getObj lm).run P w = .ok (.map ms clock) w := by simp [getObj, Sem.run, h2]
  have hga : (!seen.toArray.isEmpty && !ms.isEmpty && ms.all fun e => decide (e.born ≥ st)) = false := by
    rw [← hg]
    simp
  generalize hL : ms.toList.filter (fun e => !seen.contains e.born) = L at hold ⊢
  have e1 : ms.filter (fun e => !seen.toArray.contains e.born) = L.toArray := by
    apply Array.ext'
    rw [Array.toList_filter]
    simp only [List.contains_toArray]
    exact hL
  have e2 : L.toArray.filter (fun e => decide (e.born < since)) = L.toArray := by
    apply Array.ext'
    rw [Array.toList_filter]
    exact List.filter_eq_self.2 fun e he => by simp [hold e he]
  have e3 : L.toArray.filter (fun e => decide (e.born ≥ since)) = #[] := by
    apply Array.ext'
    rw [Array.toList_filter]
    exact List.filter_eq_nil_iff.2 fun e he => by have := hold e he; simp; omega
  constructor
  · intro hn
    subst hn
    have : ([] : List MapEntry).toArray = #[] := rfl
    rw [this] at e1 e2
    simp only [Instr.next, Sem.run_bind, g1, Result.andThen_ok, g2, hga, Bool.false_eq_true, if_false, e1]
    simp [choose, Sem.run, Question.forced]
  · intro hn
    have hpos : 0 < L.length := List.length_pos_iff.2 hn
    obtain ⟨j, w', hc, hj, hw⟩ := run_choose_map (P := P) hpos w
    refine ⟨j, L[j], w', List.getElem?_eq_getElem hj, hw, ?_⟩
    have hne : L.toArray.isEmpty = false := by simp [hn]
    have hset : ∀ o, (setObj r o).run P w' = .ok () { w' with heap := w'.heap.setIfInBounds r o } := fun o => by
      have : w'.heap[r]? = some (.mapIter (some lm) since seen.toArray st) := by rcases hw with rfl | rfl <;> exact h1
      simp [setObj, Sem.run, this]
    have hcand : ((if L.toArray.isEmpty = true then #[none] else #[]) ++ (L.toArray ++ #[]).map some : Array (Option MapEntry)) = (L.map some).toArray := by
      simp [hn]
    simp only [Instr.next, Sem.run_bind, g1, Result.andThen_ok, g2, hga, Bool.false_eq_true, if_false, e1, e2, e3, hcand]
    have hsz : (L.map some).toArray.size = L.length := by simp
    rw [hsz, hc]
    simp only [Result.andThen_ok]
    have hget : (L.map some).toArray[j]? = some (some L[j]) := by simp [hj]
    rw [hget]
    simp only [Sem.run_bind, hset, Result.andThen_ok]
    rfl
theorem next_ok {α : XM} {s : XS} {w : World} (h : HR α s w) {f : XF} {a : Act} (k : FR1 α f a) {o : Oper} {y : Operand} (ho : o.op = .next y false) {b : XP} (hy : evX f y = some (.one (.ptr (some (b, 0))))) {outs : List (XV × XS)} (hx : nextX s b = some outs) : ∃ x t, (x, t) ∈ outs ∧ OpOK P o a α s w x t := by
  obtain ⟨l, hl, hv⟩ := evX_ok k hy
  have hexec : ∀ v w', (Instr.next (a.eval y) false o.type).run P w = .ok v w' → (execOp a.eval o).run P w = .ok (.value v) w' := fun v w' hr => by
    simp only [execOp, ho, Sem.run_bind, hr, Result.andThen_ok]
    rfl
  unfold nextX at hx
  split at hx
  · rename_i since seen st hb
    cases hx
    refine ⟨_, _, List.mem_singleton.2 rfl, ?_⟩
    obtain ⟨l', hl', mb, h1, h2⟩ := h.live b _ hb
    rw [hl] at hl'
    cases hl'
    simp only at h2
    subst h2
    refine OpOK.pure (v := .tuple #[.bool false]) (hexec _ _ ?_) ⟨[.bool false], .cons ⟨_, rfl, rfl⟩ .nil, rfl⟩ h
    rw [hv]
    simp [Instr.next, getObj, Sem.run, h1]
  · rename_i m since seen st hb
    split at hx
    · rename_i es clock hm
      split at hx
      · cases hx
      · rename_i hg
        obtain ⟨l', hl', mb, h1, h2⟩ := h.live b _ hb
        rw [hl] at hl'
        cases hl'
        obtain ⟨lm, hlm, rfl⟩ := h2
        obtain ⟨lm', hlm', ms, h3, h4⟩ := h.mapAt hm
        rw [hlm] at hlm'
        cases hlm'
        have hleft := leftX_ok (seen := seen) h4
        have hguard : (!seen.isEmpty && !ms.isEmpty && ms.toList.all fun e => decide (e.born ≥ st)) = false := by
          have hge := allGe_ok (n := st) h4
          unfold guardX at hg
          cases seen with
          | nil => rfl
          | cons a r =>
            cases es with
            | nil =>
              cases h4' : ms.toList with
              | nil =>
                have : ms = #[] := Array.ext' h4'
                simp [this]
              | cons x y => rw [h4'] at h4; cases h4
            | cons x y =>
              simp only at hg
              rw [hge] at hg
              rw [hg]
              simp
        split at hx
        · rename_i hl0
          cases hx
          rw [hl0] at hleft
          have hnil : ms.toList.filter (fun e => !seen.contains e.born) = [] := by
            cases hf : ms.toList.filter (fun e => !seen.contains e.born) with
            | nil => rfl
            | cons x y => rw [hf] at hleft; cases hleft
          refine ⟨_, _, List.mem_singleton.2 rfl, ?_⟩
          refine OpOK.pure (v := .tuple #[.bool false]) (hexec _ _ ?_) ⟨[.bool false], .cons ⟨_, rfl, rfl⟩ .nil, rfl⟩ h
          rw [hv]
          exact (run_next (P := P) h1 h3 hguard (by rw [hnil]; intro e he; cases he)).1 hnil
        · rename_i left hne
          obtain ⟨hlt, hx⟩ := bif_some hx
          obtain ⟨hmay, hx⟩ := bif_some hx
          have hold := allLt_ok hleft hlt
          have hne' : ms.toList.filter (fun e => !seen.contains e.born) ≠ [] := fun e => by
            rw [e] at hleft
            cases hlx : leftX seen es with
            | nil => exact hne hlx
            | cons x y => rw [hlx] at hleft; cases hleft
          obtain ⟨j, e, w', hj, hw, hr⟩ := (run_next (P := P) (ty := o.type) h1 h3 hguard hold).2 hne'
          have hjl : j < (leftX seen es).length := by
            rw [hleft.length]
            exact (List.getElem?_eq_some_iff.1 hj).1
          obtain ⟨e', he1, he2⟩ := hleft.get j _ (List.getElem?_eq_getElem hjl)
          rw [hj] at he1
          cases he1
          obtain ⟨kx, vx, q1, q2, q3⟩ := outsX_ok hx j _ (List.getElem?_eq_getElem hjl)
          refine ⟨_, _, q3, ?_⟩
          have hH : HR α s w' ∧ GR α s w α s w' := by
            rcases hw with rfl | rfl
            · exact ⟨h, GR.refl _ _ _⟩
            · exact ⟨h.drew, GR.drew _ _ _⟩
          have hblk : w'.heap[l.blk]? = w.heap[l.blk]? := by rcases hw with rfl | rfl <;> rfl
          have hlt2 : l.blk < w'.heap.size := by
            have : w'.heap[l.blk]? = _ := hblk.trans h1
            exact (Array.getElem?_eq_some_iff.1 this).1
          obtain ⟨k1, k2⟩ := hH.1.turn hb (fun e => by cases e) hl hmay (w' := { w' with heap := w'.heap.setIfInBounds l.blk (.mapIter (some lm.blk) since (seen.toArray.push e.born) clock) }) (o' := .iter (some m) since (seen ++ [(leftX seen es)[j].2.2]) clock) ⟨rfl, rfl, rfl, by simp, fun p _ hp => by
            show (w'.heap.setIfInBounds l.blk _)[p]? = _
            exact Array.getElem?_setIfInBounds_ne (fun e => hp (by rw [e]))⟩ ⟨some lm.blk, by
            show (w'.heap.setIfInBounds l.blk _)[l.blk]? = _
            rw [Array.getElem?_setIfInBounds_self_of_lt hlt2, he2.2.2]
            simp, lm, hlm, rfl⟩
          refine ⟨α, _, .tuple #[.bool true, e.key, e.val], _, hexec _ _ (by rw [hv]; exact hr), .inl rfl, ?_, k1, hH.2.trans k2, rfl⟩
          exact ⟨[.bool true, e.key, e.val], .cons ⟨_, rfl, rfl⟩ (.cons (wrapX_ok he2.1 q1) (.cons (wrapX_ok he2.2.1 q2) .nil)), rfl⟩
    · cases hx
  · cases hx
end
end Go.Proofs.YtbddollbjajcnaaGreat
