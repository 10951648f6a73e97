/- The evaluator: walks over maps; the rest of the builtins. -/
import Derived.Test.YtbddollbjajcnaaGreatX15
namespace Go.Proofs.YtbddollbjajcnaaGreat
open Go
noncomputable section
set_option linter.unusedVariables false
set_option linter.unusedSimpArgs false
variable {P : Program}
theorem ok_append {o : Oper} {a : Act} {α : XM} {s s' : XS} {w : World} {f : XF} (h : HR α s w) (k : FR1 α f a) {y z : Operand} {t tx e' : TypeId} (ho : o.op = .call ⟨.builtin .append, #[y, z], #[t, tx]⟩) (hk : P.underlying tx = some (.slice e')) {c d x : XV} (hy : evX f y = some c) (hz : evX f z = some d) (hx : appendX P s t c d = some (x, s')) : OpOK P o a α s w x s' := by
  obtain ⟨r, w', β, h1, h2, h3, h4, h5⟩ := append_ok (P := P) (ty := o.type) h hk (evX_ok k hy) (evX_ok k hz) hx
  refine ⟨β, .value r, r, w', ?_, .inl rfl, h2, h3, h4, h5⟩
  rw [run_builtin ho]
  simp [builtin, h1]
/-- nil or not -/
def nilEq (P : Program) (t : TypeId) : XC → XC → Option Bool
  | .ptr p, .ptr q => match P.underlying t with
    | some (.pointer _) => match p, q with
      | none, none => some true
      | none, some _ => some false
      | some _, none => some false
      | _, _ => none
    | _ => none
  | .slice p _ _, .slice q _ _ => match P.underlying t with
    | some (.slice _) => match p, q with
      | none, none => some true
      | none, some _ => some false
      | some _, none => some false
      | _, _ => none
    | _ => none
  | .map p, .map q => match P.underlying t with
    | some (.map _ _) => match p, q with
      | none, none => some true
      | none, some _ => some false
      | some _, none => some false
      | _, _ => none
    | _ => none
  | .nilFn, .nilFn => match P.underlying t with
    | some (.func _ _ _) => some true
    | _ => none
  | .nilFn, .fn _ _ _ => match P.underlying t with
    | some (.func _ _ _) => some false
    | _ => none
  | .fn _ _ _, .nilFn => match P.underlying t with
    | some (.func _ _ _) => some false
    | _ => none
  | _, _ => none
theorem CR.some' {α : XM} {p : XA} {n : Nat} {cap : XCap} {v : Value} (h : CR α (.slice (some p) n cap) v) : ∃ q c, v = .slice (some q) n c := by
  obtain ⟨b, o⟩ := p
  obtain ⟨l, c, _, _, rfl⟩ := h.slc
  exact ⟨_, _, rfl⟩
theorem equal_step {t : TypeId} {u v : Value} {w : World} {r : Result Bool} (h : ∀ d, (Op.equalIn (d + 1) t u v).run P w = r) : (Op.equal t u v).run P w = r := h 9999
theorem eq_ptr0 {t e : TypeId} (hu : P.underlying t = some (.pointer e)) (b : Option Addr) (w : World) : (Op.equal t (.pointer none) (.pointer b)).run P w = .ok b.isNone w := equal_step fun d => by
  unfold Op.equalIn; simp [run_underlying hu]
theorem eq_ptr1 {t e : TypeId} (hu : P.underlying t = some (.pointer e)) (b : Addr) (w : World) : (Op.equal t (.pointer (some b)) (.pointer none)).run P w = .ok false w := equal_step fun d => by
  unfold Op.equalIn; simp [run_underlying hu]
theorem eq_slc0 {t e : TypeId} (hu : P.underlying t = some (.slice e)) (n c : Nat) (b : Option Addr) (m k : Nat) (w : World) : (Op.equal t (.slice none n c) (.slice b m k)).run P w = .ok b.isNone w := equal_step fun d => by
  unfold Op.equalIn; simp [run_underlying hu]
theorem eq_slc1 {t e : TypeId} (hu : P.underlying t = some (.slice e)) (n c : Nat) (b : Addr) (m k : Nat) (w : World) : (Op.equal t (.slice (some b) n c) (.slice none m k)).run P w = .ok false w := equal_step fun d => by
  unfold Op.equalIn; simp [run_underlying hu]
theorem eq_map0 {t k e : TypeId} (hu : P.underlying t = some (.map k e)) (b : Option Nat) (w : World) : (Op.equal t (.map none) (.map b)).run P w = .ok b.isNone w := equal_step fun d => by
  unfold Op.equalIn; simp [run_underlying hu]
theorem eq_map1 {t k e : TypeId} (hu : P.underlying t = some (.map k e)) (b : Nat) (w : World) : (Op.equal t (.map (some b)) (.map none)).run P w = .ok false w := equal_step fun d => by
  unfold Op.equalIn; simp [run_underlying hu]
theorem eq_fn0 {t : TypeId} {x y z} (hu : P.underlying t = some (.func x y z)) (w : World) : (Op.equal t .nilFunc .nilFunc).run P w = .ok true w := equal_step fun d => by
  unfold Op.equalIn; simp [run_underlying hu]
theorem eq_fn1 {t : TypeId} {x y z} (hu : P.underlying t = some (.func x y z)) (f : Fn) (a b : Array Value) (w : World) : (Op.equal t .nilFunc (.func f a b)).run P w = .ok false w := equal_step fun d => by
  unfold Op.equalIn; simp [run_underlying hu]
theorem eq_fn2 {t : TypeId} {x y z} (hu : P.underlying t = some (.func x y z)) (f : Fn) (a b : Array Value) (w : World) : (Op.equal t (.func f a b) .nilFunc).run P w = .ok false w := equal_step fun d => by
  unfold Op.equalIn; simp [run_underlying hu]
theorem nilEq_ok {α : XM} {t : TypeId} {c d : XC} {u v : Value} (hu : CR α c u) (hv : CR α d v) {r : Bool} (hr : nilEq P t c d = some r) (y z : Operand) (w : World) :
    (eqGuard .eql t y z u v).run P w = .ok () w ∧ (eqGuard .neq t y z u v).run P w = .ok () w ∧ (binOp .eql t u v).run P w = .ok (.bool r) w ∧ (binOp .neq t u v).run P w = .ok (.bool (!r)) w := by
  unfold nilEq at hr
  split at hr
  · rename_i p q
    split at hr
    · rename_i e hut
      have e1 : ∃ p', u = .pointer p' ∧ p'.isNone = p.isNone := by
        cases p with
        | none => exact ⟨none, hu, rfl⟩
        | some p => obtain ⟨l, _, h⟩ := hu; exact ⟨_, h, rfl⟩
      have e2 : ∃ q', v = .pointer q' ∧ q'.isNone = q.isNone := by
        cases q with
        | none => exact ⟨none, hv, rfl⟩
        | some q => obtain ⟨l, _, h⟩ := hv; exact ⟨_, h, rfl⟩
      obtain ⟨p', rfl, e1⟩ := e1
      obtain ⟨q', rfl, e2⟩ := e2
      cases p <;> cases q <;> cases p' <;> cases q' <;> simp at e1 e2 hr <;> subst hr <;> simp [eqGuard, binOp, eq_ptr0 hut, eq_ptr1 hut]
    · cases hr
  · rename_i p n1 k1 q n2 k2
    split at hr
    · rename_i e hut
      have e1 : ∃ p' n' c', u = .slice p' n' c' ∧ p'.isNone = p.isNone := by
        cases p with
        | none => obtain ⟨_, _, h⟩ := hu; exact ⟨_, _, _, h, rfl⟩
        | some p => obtain ⟨q, c, h⟩ := CR.some' hu; exact ⟨_, _, _, h, rfl⟩
      have e2 : ∃ p' n' c', v = .slice p' n' c' ∧ p'.isNone = q.isNone := by
        cases q with
        | none => obtain ⟨_, _, h⟩ := hv; exact ⟨_, _, _, h, rfl⟩
        | some p => obtain ⟨q, c, h⟩ := CR.some' hv; exact ⟨_, _, _, h, rfl⟩
      obtain ⟨p', _, _, rfl, e1⟩ := e1
      obtain ⟨q', _, _, rfl, e2⟩ := e2
      cases p <;> cases q <;> cases p' <;> cases q' <;> simp at e1 e2 hr <;> subst hr <;> simp [eqGuard, binOp, eq_slc0 hut, eq_slc1 hut]
    · cases hr
  · rename_i p q
    split at hr
    · rename_i k e hut
      have e1 : ∃ p', u = .map p' ∧ p'.isNone = p.isNone := by
        cases p with
        | none => exact ⟨none, hu, rfl⟩
        | some p => obtain ⟨l, _, h⟩ := hu; exact ⟨_, h, rfl⟩
      have e2 : ∃ q', v = .map q' ∧ q'.isNone = q.isNone := by
        cases q with
        | none => exact ⟨none, hv, rfl⟩
        | some q => obtain ⟨l, _, h⟩ := hv; exact ⟨_, h, rfl⟩
      obtain ⟨p', rfl, e1⟩ := e1
      obtain ⟨q', rfl, e2⟩ := e2
      cases p <;> cases q <;> cases p' <;> cases q' <;> simp at e1 e2 hr <;> subst hr <;> simp [eqGuard, binOp, eq_map0 hut, eq_map1 hut]
    · cases hr
  · split at hr
    · rename_i a1 a2 a3 hut
      obtain rfl := hu
      obtain rfl := hv
      cases hr
      simp [eqGuard, binOp, eq_fn0 hut]
    · cases hr
  · split at hr
    · rename_i a1 a2 a3 hut
      obtain rfl := hu
      obtain ⟨_, _, _, _, rfl⟩ := hv
      cases hr
      simp [eqGuard, binOp, eq_fn1 hut]
    · cases hr
  · split at hr
    · rename_i a1 a2 a3 hut
      obtain rfl := hv
      obtain ⟨_, _, _, _, rfl⟩ := hu
      cases hr
      simp [eqGuard, binOp, eq_fn2 hut]
    · cases hr
  · cases hr
end
end Go.Proofs.YtbddollbjajcnaaGreat
namespace Go.Proofs.YtbddollbjajcnaaGreat
open Go
noncomputable section
set_option linter.unusedVariables false
set_option linter.unusedSimpArgs false
variable {P : Program}
def rangeX (P : Program) (s : XS) (t : TypeId) (m : XV) : Option XO :=
  match P.underlying t with
  | some (.map _ _) => match m with
    | .one (.map none) => some (.iter none 0 [] 0)
    | .one (.map (some b)) => match XT.get b s.heap with
      | some (.map _ c) => some (.iter (some b) c [] c)
      | _ => none
    | _ => none
  | _ => none
theorem ok_range {o : Oper} {a : Act} {α : XM} {s : XS} {w : World} {f : XF} (h : HR α s w) (k : FR1 α f a) {t : TypeId} {y : Operand} (ho : o.op = .range t y) {m : XV} (hy : evX f y = some m) {it : XO} (hx : rangeX P s t m = some it) : OpOK P o a α s w (.one (.ptr (some (s.next, 0)))) ⟨XT.put (some it) s.next s.heap, s.next.succ, s.k⟩ := by
  have hv := evX_ok k hy
  unfold rangeX at hx
  split at hx
  · rename_i kt et hu
    split at hx
    · cases hx
      have hv : a.eval y = .map none := hv
      obtain ⟨k1, k2⟩ := h.new (.iter none 0 [] 0) (.mapIter none 0 #[] 0) 0 ⟨none, by show (w.heap.push _)[w.heap.size]? = _; simp, rfl⟩
      refine ⟨_, .value (.pointer (some ⟨w.heap.size, 0, none⟩)), _, _, ?_, .inl rfl, ⟨_, XM.put_self _ _ _, rfl⟩, k1, k2, rfl⟩
      simp [execOp, ho, hv, Instr.range, run_underlying hu, newObj, Sem.run]
    · rename_i b
      split at hx
      · rename_i es c hb
        cases hx
        obtain ⟨l, h1, ms, h2, h3⟩ := h.mapAt hb
        obtain ⟨l', h1', hvm⟩ := hv
        rw [h1] at h1'
        cases h1'
        have hne : b ≠ s.next := h.nofresh hb
        obtain ⟨k1, k2⟩ := h.new (.iter (some b) c [] c) (.mapIter (some l.blk) c #[] c) 0 ⟨some l.blk, by show (w.heap.push _)[w.heap.size]? = _; simp, l, h1, rfl⟩
        refine ⟨_, .value (.pointer (some ⟨w.heap.size, 0, none⟩)), _, _, ?_, .inl rfl, ⟨_, XM.put_self _ _ _, rfl⟩, k1, k2, rfl⟩
        have e3 := MapKept.run_getObj_map (P := P) h2
        simp [execOp, ho, hvm, Instr.range, run_underlying hu, e3, newObj, Sem.run]
      · cases hx
    · cases hx
  · cases hx
theorem bornX_find {α : XM} {n : Nat} : ∀ {es : List (XV × XV × Nat)} {ms : List MapEntry}, F2 (ER α) es ms → ∀ {j : Nat}, bornX n es = some j → ∃ m, ms.find? (fun e => e.born == n) = some m ∧ ms[j]? = some m
  | [], _, .nil, j, hj => by cases hj
  | e :: es, m :: ms, .cons h1 h2, j, hj => by
    unfold bornX at hj
    have hb := h1.2.2
    cases hc : Nat.beq e.2.2 n with
    | true =>
      simp only [hc, cond_true] at hj
      cases hj
      have := Nat.eq_of_beq_eq_true hc
      exact ⟨m, by simp [hb, this], rfl⟩
    | false =>
      simp only [hc, cond_false] at hj
      have hne := Nat.ne_of_beq_eq_false hc
      split at hj
      · rename_i i hi
        cases hj
        obtain ⟨m', i1, i2⟩ := bornX_find h2 hi
        have : (m.born == n) = false := by
          rw [hb]
          simpa using hne
        exact ⟨m', by simp [this, i1], by simpa using i2⟩
      · cases hj
def lastX : List Nat → Option Nat
  | [] => none
  | [n] => some n
  | _ :: l => lastX l
theorem lastX_ok : ∀ {l : List Nat} {n : Nat}, lastX l = some n → l.toArray.back? = some n
  | [], _, h => by cases h
  | [m], _, h => by cases h; simp
  | _ :: b :: l, n, h => by
    have := lastX_ok (l := b :: l) (n := n) h
    simp at this ⊢
    simpa using this
def entOX (s : XS) (b : XP) : Option XV :=
  match XT.get b s.heap with
  | some (.iter (some q) _ seen st) => match lastX seen with
    | some n => match XT.get q s.heap with
      | some (.map es c) => bif Nat.beq c st then
          (match bornX n es with
          | some j => match es[j]? with
            | some e => match wrapX e.1 with
              | some x => match wrapX e.2.1 with
                | some y => some (.tup [x, y])
                | none => none
              | none => none
            | none => none
          | none => none) else none
      | _ => none
    | none => none
  | _ => none
theorem ok_entryOf {o : Oper} {a : Act} {α : XM} {s : XS} {w : World} {f : XF} (h : HR α s w) (k : FR1 α f a) {y : Operand} (ho : o.op = .entry y) {b : XP} (hy : evX f y = some (.one (.ptr (some (b, 0))))) {x : XV} (hx : entOX s b = some x) : OpOK P o a α s w x s := by
  obtain ⟨l, hl, hv⟩ := evX_ok k hy
  unfold entOX at hx
  split at hx
  · rename_i q since seen st hb
    split at hx
    · rename_i n hn
      split at hx
      · rename_i es c hq
        obtain ⟨c1, hx1⟩ := bif_pos hx
        clear hx
        have c1 := Nat.eq_of_beq_eq_true c1
        subst c1
        split at hx1
        · rename_i j hj
          split at hx1
          · rename_i e he
            split at hx1
            · rename_i x1 hx1'
              split at hx1
              · rename_i y1 hy1
                cases hx1
                obtain ⟨l0, e1, mb, e2, e3⟩ := h.live b _ hb
                rw [hl] at e1
                cases e1
                obtain ⟨lm, e4, rfl⟩ := e3
                obtain ⟨l2, e5, ms, e6, e7⟩ := h.mapAt hq
                rw [e4] at e5
                cases e5
                obtain ⟨m, g1, g2⟩ := bornX_find e7 hj
                obtain ⟨m', g3, g4⟩ := e7.get j _ he
                rw [g2] at g3
                cases g3
                have r1 : (getObj l.blk).run P w = .ok (.mapIter (some lm.blk) since seen.toArray c) w := by simp [getObj, Sem.run, e2]
                have r2 := MapKept.run_getObj_map (P := P) e6
                have r3 := lastX_ok hn
                have g1' : ms.find? (fun e => e.born == n) = some m := by obtain ⟨ml⟩ := ms; simpa using g1
                refine OpOK.pure (v := .tuple #[m.key, m.val]) ?_ ⟨[m.key, m.val], .cons (wrapX_ok g4.1 hx1') (.cons (wrapX_ok g4.2.1 hy1) .nil), rfl⟩ h
                simp only [execOp, ho, hv, Instr.entry, Sem.run_bind, r1, Result.andThen_ok, r3, r2, bne_self_eq_false, Bool.false_eq_true, if_false, g1', Sem.run_pure]
              · cases hx1
            · cases hx1
          · cases hx1
        · cases hx1
      · cases hx
    · cases hx
  · cases hx
end
end Go.Proofs.YtbddollbjajcnaaGreat
