/- The evaluator: maps that are written. -/
import Derived.Test.YtbddollbjajcnaaGreatX9
namespace Go.Proofs.YtbddollbjajcnaaGreat
open Go Go.MapKept
noncomputable section
set_option linter.unusedVariables false
set_option linter.unusedSimpArgs false
variable {P : Program}
def modL {A : Type} (g : A → A) : Nat → List A → List A
  | _, [] => []
  | 0, e :: es => g e :: es
  | j + 1, e :: es => e :: modL g j es
theorem modL_eq {A : Type} (g : A → A) : ∀ (j : Nat) (l : List A), modL g j l = l.modify j g
  | _, [] => by cases ‹Nat› <;> rfl
  | 0, e :: es => rfl
  | j + 1, e :: es => by
    show e :: modL g j es = _
    rw [modL_eq g j es]
    rfl
theorem F2.mod {A B : Type} {R : A → B → Prop} {g : A → A} {f : B → B} : ∀ {j : Nat} {l : List A} {m : List B}, F2 R l m → (∀ a b, l[j]? = some a → m[j]? = some b → R a b → R (g a) (f b)) → F2 R (modL g j l) (modL f j m)
  | 0, _, _, .nil, _ => .nil
  | _ + 1, _, _, .nil, _ => .nil
  | 0, _, _, .cons h t, k => .cons (k _ _ rfl rfl h) t
  | j + 1, _, _, .cons h t, k => .cons h (F2.mod t fun a b ha hb => k a b (by simpa using ha) (by simpa using hb))
/-- a map turns -/
theorem HR.setMap {α : XM} {s : XS} {w : World} (h : HR α s w) {b : XP} {es es' : List (XV × XV × Nat)} {c c' : Nat} (hb : XT.get b s.heap = some (.map es c)) (hmay : s.may b = true) {l : XL} (hl : α b = some l) {ms' : Array MapEntry} (he : F2 (ER α) es' ms'.toList) :
    HR α ⟨XT.put (some (.map es' c')) b s.heap, s.next, s.k⟩ { w with heap := w.heap.setIfInBounds l.blk (.map ms' c') } ∧
    GR α s w α ⟨XT.put (some (.map es' c')) b s.heap, s.next, s.k⟩ { w with heap := w.heap.setIfInBounds l.blk (.map ms' c') } := by
  obtain ⟨l', h1, h2⟩ := h.live b _ hb
  rw [hl] at h1
  cases h1
  refine h.turn hb (fun e => by cases e) hl hmay ⟨rfl, rfl, rfl, by simp, fun k hk hne => ?_⟩ ⟨ms', ?_, he⟩
  · show (w.heap.setIfInBounds l.blk _)[k]? = _
    exact Array.getElem?_setIfInBounds_ne (fun e => hne (by rw [e]))
  · show (w.heap.setIfInBounds l.blk _)[l.blk]? = _
    exact Array.getElem?_setIfInBounds_self_of_lt h2.lt
/-- where a map lies -/
theorem HR.mapAt {α : XM} {s : XS} {w : World} (h : HR α s w) {b : XP} {es : List (XV × XV × Nat)} {c : Nat} (hb : XT.get b s.heap = some (.map es c)) : ∃ l, α b = some l ∧ ∃ ms : Array MapEntry, w.heap[l.blk]? = some (.map ms c) ∧ F2 (ER α) es ms.toList := by
  obtain ⟨l, h1, ms, h2, h3⟩ := h.live b _ hb
  exact ⟨l, h1, ms, h2, h3⟩
def isVal : XV → Bool
  | .tup _ => false
  | .any => false
  | _ => true
/-- a key and the place where it stands, or none -/
def seekX (P : Program) (k : TypeId) (es : List (XV × XV × Nat)) (ix : XV) : Option (Option Nat) :=
  match keyShape P k with
  | some K => bif vFits K ix then (bif keysFit K es then findX ix es else none) else none
  | none => none
theorem run_seek {α : XM} (h : SymOK α) {k : TypeId} {es : List (XV × XV × Nat)} {ms : List MapEntry} (he : F2 (ER α) es ms) {ix : XV} {v : Value} (hv : VR α ix v) {q : Option Nat} (hq : seekX P k es ix = some q) (em : Bool) (w : World) :
    (Instr.checkKey em 10000 k v).run P w = .ok () w ∧ (Instr.keyThatStays v v).run P w = .ok v w ∧ FindR P k v ms w q := by
  unfold seekX at hq
  cases hK : keyShape P k with
  | none => simp [hK] at hq
  | some K =>
    simp only [hK] at hq
    obtain ⟨hf, hq⟩ := bif_pos hq
    obtain ⟨hfs, hq⟩ := bif_pos hq
    have hx := vFits_ok h hv hf
    exact ⟨(kl_of hK).check w em hx, (kl_of hK).stays w hx, run_find h hK hv hf he hfs hq w⟩
def updX (P : Program) (s : XS) (t : TypeId) (m ix v : XV) : Option XS :=
  match P.underlying t with
  | some (.map k _) => match m with
    | .one (.map (some b)) => match XT.get b s.heap with
      | some (.map es c) => bif s.may b then
          (match seekX P k es ix with
          | some (some j) => some ⟨XT.put (some (.map (modL (fun e => (e.1, v, e.2.2)) j es) c)) b s.heap, s.next, s.k⟩
          | some none => some ⟨XT.put (some (.map (List.append es [(ix, v, c)]) (Nat.succ c))) b s.heap, s.next, s.k⟩
          | none => none) else none
      | _ => none
    | _ => none
  | _ => none
theorem run_mapUpdate {α : XM} {s s' : XS} {w : World} (h : HR α s w) {t : TypeId} {m ix x : XV} {vm vi v : Value} (hm : VR α m vm) (hi : VR α ix vi) (hv : VR α x v) (hu : updX P s t m ix x = some s') :
    ∃ w', (Instr.mapUpdate t vm vi v).run P w = .ok () w' ∧ HR α s' w' ∧ GR α s w α s' w' ∧ s'.k = s.k := by
  unfold updX at hu
  split at hu
  · rename_i k e hut
    split at hu
    · rename_i b
      split at hu
      · rename_i es c hb
        obtain ⟨hmay, hu⟩ := bif_pos hu
        obtain ⟨l, h1, ms, h2, h3⟩ := h.mapAt hb
        obtain ⟨l', h1', rfl⟩ := hm
        rw [h1] at h1'
        cases h1'
        split at hu
        · rename_i j hq
          cases hu
          obtain ⟨k1, k2, e0, k3, k4, k5⟩ := run_seek (P := P) h.sym h3 hi hq false w
          have hfe : ms[j]? = some e0 := by simpa using k4
          obtain ⟨g1, g2⟩ := h.setMap (c' := c) (es' := modL (fun e => (e.1, x, e.2.2)) j es) (ms' := ms.modify j fun e => { e with key := vi, val := v }) hb hmay h1 (by
            rw [Array.toList_modify, ← modL_eq]
            exact h3.mod fun a b ha hb' hab => by
              rw [k4] at hb'
              cases hb'
              exact ⟨by rw [← k5]; exact hab.1, hv, hab.2.2⟩)
          exact ⟨_, by simp [Instr.mapUpdate, run_underlying hut, MapKept.run_getObj_map (P := P) h2, k1, k3, hfe, k5, k2, MapKept.run_setObj_map (P := P) _ h2], g1, g2, rfl⟩
        · rename_i hq
          cases hu
          obtain ⟨k1, k2, k3⟩ := run_seek (P := P) h.sym h3 hi hq false w
          have k3 : (Instr.findKey k vi ms.toList).run P w = .ok none w := k3
          obtain ⟨g1, g2⟩ := h.setMap (c' := c + 1) (es' := es ++ [(ix, x, c)]) (ms' := ms.push { key := vi, val := v, born := c }) hb hmay h1 (by
            rw [Array.toList_push]
            exact h3.append (.cons ⟨hi, hv, rfl⟩ .nil))
          exact ⟨_, by simp [Instr.mapUpdate, run_underlying hut, MapKept.run_getObj_map (P := P) h2, k1, k3, MapKept.run_setObj_map (P := P) _ h2], g1, g2, rfl⟩
        · cases hu
      · cases hu
    · cases hu
  · cases hu
theorem ok_update {o : Oper} {a : Act} {α : XM} {s s' : XS} {w : World} {f : XF} (h : HR α s w) (k : FR1 α f a) {t : TypeId} {y z u : Operand} (ho : o.op = .mapUpdate t y z u ∨ o.op = .insert t y z u) {m ix x : XV} (hy : evX f y = some m) (hz : evX f z = some ix) (hu : evX f u = some x) (hx : updX P s t m ix x = some s') : OpOK P o a α s w (.tup []) s' := by
  obtain ⟨w', h1, h2, h3, h4⟩ := run_mapUpdate (P := P) h (evX_ok k hy) (evX_ok k hz) (evX_ok k hu) hx
  refine ⟨α, .skip, undef, w', ?_, .inr ⟨rfl, rfl⟩, ⟨[], .nil, rfl⟩, h2, h3, h4⟩
  rcases ho with ho | ho <;> simp [execOp, ho, h1]
/-- an entry that is read to be written -/
def entryX (P : Program) (s : XS) (t : TypeId) (m ix : XV) : Option (XV × XS) :=
  match P.underlying t with
  | some (.map k e) => match m with
    | .one (.map (some b)) => match XT.get b s.heap with
      | some (.map es c) => bif s.may b then
          (match seekX P k es ix with
          | some (some j) => match es[j]? with
            | some y => match wrapX y.2.1 with
              | some z => some (.tup [z, (false, [.int .i64 (Int.ofNat y.2.2)])], ⟨XT.put (some (.map es c)) b s.heap, s.next, s.k⟩)
              | none => none
            | none => none
          | some none => match zeroX P e with
            | some z => match wrapX z with
              | some zz => some (.tup [zz, (false, [.int .i64 (Int.ofNat c)])], ⟨XT.put (some (.map (List.append es [(ix, z, c)]) (Nat.succ c))) b s.heap, s.next, s.k⟩)
              | none => none
            | none => none
          | none => none) else none
      | _ => none
    | _ => none
  | _ => none
theorem modL_id {A : Type} : ∀ (j : Nat) (l : List A), modL (fun e => e) j l = l
  | _, [] => by cases ‹Nat› <;> rfl
  | 0, _ :: _ => rfl
  | j + 1, e :: es => by show e :: modL _ j es = _; rw [modL_id j es]
theorem ok_entry {o : Oper} {a : Act} {α : XM} {s s' : XS} {w : World} {f : XF} (h : HR α s w) (k : FR1 α f a) {t : TypeId} {y z : Operand} (ho : o.op = .mapEntry t y z) {m ix x : XV} (hy : evX f y = some m) (hz : evX f z = some ix) (hx : entryX P s t m ix = some (x, s')) : OpOK P o a α s w x s' := by
  have hm := evX_ok k hy
  have hi := evX_ok k hz
  unfold entryX at hx
  split at hx
  · rename_i kt e hut
    split at hx
    · rename_i b
      split at hx
      · rename_i es c hb
        obtain ⟨hmay, hx⟩ := bif_pos hx
        obtain ⟨l, h1, ms, h2, h3⟩ := h.mapAt hb
        obtain ⟨l', h1', hvm⟩ := hm
        rw [h1] at h1'
        cases h1'
        split at hx
        · rename_i j hq
          obtain ⟨k1, k2, e0, k3, k4, k5⟩ := run_seek (P := P) h.sym h3 hi hq false w
          have hfe : ms[j]? = some e0 := by simpa using k4
          cases hj : es[j]? with
          | none => simp [hj] at hx
          | some y' =>
            cases hw : wrapX y'.2.1 with
            | none => simp [hj, hw] at hx
            | some z' =>
              simp only [hj, hw] at hx
              cases hx
              obtain ⟨m', h4, h5⟩ := h3.get j _ hj
              rw [k4] at h4
              cases h4
              obtain ⟨g1, g2⟩ := h.setMap (c' := c) (es' := es) (ms' := ms.modify j fun e => { e with key := a.eval z }) hb hmay h1 (by
                rw [Array.toList_modify, ← modL_eq, ← modL_id j es]
                exact h3.mod fun a' b' ha hb' hab => by
                  rw [k4] at hb'
                  cases hb'
                  exact ⟨by rw [← k5]; exact hab.1, hab.2.1, hab.2.2⟩)
              refine ⟨α, .value (.tuple #[e0.val, .int .i64 (y'.2.2 : Int)]), _, _, ?_, .inl rfl, ⟨[e0.val, .int .i64 (y'.2.2 : Int)], .cons (wrapX_ok h5.2.1 hw) (.cons ⟨_, rfl, rfl⟩ .nil), rfl⟩, g1, g2, rfl⟩
              simp [execOp, ho, hvm, Instr.mapEntry, run_underlying hut, MapKept.run_getObj_map (P := P) h2, k1, k3, hfe, k5, k2, MapKept.run_setObj_map (P := P) _ h2, goInt, h5.2.2]
        · rename_i hq
          obtain ⟨k1, k2, k3⟩ := run_seek (P := P) h.sym h3 hi hq false w
          have k3 : (Instr.findKey kt (a.eval z) ms.toList).run P w = .ok none w := k3
          cases hz' : zeroX P e with
          | none => simp [hz'] at hx
          | some z0 =>
            cases hw : wrapX z0 with
            | none => simp [hz', hw] at hx
            | some zz =>
              simp only [hz', hw] at hx
              cases hx
              obtain ⟨v0, e1, e2⟩ := zeroX_ok (α := α) hz' w
              obtain ⟨g1, g2⟩ := h.setMap (c' := c + 1) (es' := es ++ [(ix, z0, c)]) (ms' := ms.push { key := a.eval z, val := v0, born := c }) hb hmay h1 (by
                rw [Array.toList_push]
                exact h3.append (.cons ⟨hi, e2, rfl⟩ .nil))
              refine ⟨α, .value (.tuple #[v0, .int .i64 (c : Int)]), _, _, ?_, .inl rfl, ⟨[v0, .int .i64 (c : Int)], .cons (wrapX_ok e2 hw) (.cons ⟨_, rfl, rfl⟩ .nil), rfl⟩, g1, g2, rfl⟩
              simp [execOp, ho, hvm, Instr.mapEntry, run_underlying hut, MapKept.run_getObj_map (P := P) h2, k1, k3, e1, MapKept.run_setObj_map (P := P) _ h2, goInt]
        · cases hx
      · cases hx
    · cases hx
  · cases hx
def bornX (n : Nat) : List (XV × XV × Nat) → Option Nat
  | [] => none
  | e :: es => bif Nat.beq e.2.2 n then some 0 else match bornX n es with
    | some j => some (Nat.succ j)
    | none => none
theorem bornX_ok {α : XM} {n : Nat} : ∀ {es : List (XV × XV × Nat)} {ms : List MapEntry}, F2 (ER α) es ms → ∀ {j : Nat}, bornX n es = some j → ms.findIdx? (fun e => (e.born : Int) == (n : Int)) = some j
  | [], _, .nil, j, hj => by cases hj
  | e :: es, m :: ms, .cons h1 h2, j, hj => by
    unfold bornX at hj
    have hb := h1.2.2
    cases hc : Nat.beq e.2.2 n with
    | true =>
      simp only [hc, cond_true] at hj
      cases hj
      have := Nat.eq_of_beq_eq_true hc
      simp [List.findIdx?_cons, hb, this]
    | false =>
      simp only [hc, cond_false] at hj
      have hne := Nat.ne_of_beq_eq_false hc
      split at hj
      · rename_i i hi
        cases hj
        have ih := bornX_ok h2 hi
        have : ((m.born : Int) == (n : Int)) = false := by
          rw [hb]
          simp
          omega
        simp [List.findIdx?_cons, this, ih]
      · cases hj
def entStX (s : XS) (m st x : XV) : Option XS :=
  match m with
  | .one (.map (some b)) => match XT.get b s.heap with
    | some (.map es c) => bif s.may b then
        (match idxX st with
        | some n => match bornX n es with
          | some j => some ⟨XT.put (some (.map (modL (fun e => (e.1, x, e.2.2)) j es) c)) b s.heap, s.next, s.k⟩
          | none => none
        | none => none) else none
    | _ => none
  | _ => none
theorem ok_entryStore {o : Oper} {a : Act} {α : XM} {s s' : XS} {w : World} {f : XF} (h : HR α s w) (k : FR1 α f a) {t : TypeId} {y z u : Operand} (ho : o.op = .entryStore t y z u) {m st x : XV} (hy : evX f y = some m) (hz : evX f z = some st) (hu : evX f u = some x) (hx : entStX s m st x = some s') : OpOK P o a α s w (.tup []) s' := by
  have hm := evX_ok k hy
  have hv := evX_ok k hu
  unfold entStX at hx
  split at hx
  · rename_i b
    split at hx
    · rename_i es c hb
      obtain ⟨hmay, hx⟩ := bif_pos hx
      obtain ⟨l, h1, ms, h2, h3⟩ := h.mapAt hb
      obtain ⟨l', h1', hvm⟩ := hm
      rw [h1] at h1'
      cases h1'
      cases hn : idxX st with
      | none => simp [hn] at hx
      | some n =>
        cases hj : bornX n es with
        | none => simp [hn, hj] at hx
        | some j =>
          simp only [hn, hj] at hx
          cases hx
          obtain ⟨kk, hst⟩ := idxX_ok hn (evX_ok k hz)
          have hf := bornX_ok h3 hj
          obtain ⟨g1, g2⟩ := h.setMap (c' := c) (es' := modL (fun e => (e.1, x, e.2.2)) j es) (ms' := ms.modify j fun e => { e with val := a.eval u }) hb hmay h1 (by
            rw [Array.toList_modify, ← modL_eq]
            exact h3.mod fun a' b' ha hb' hab => ⟨hab.1, hv, hab.2.2⟩)
          have hf' : ms.findIdx? (fun e => (e.born : Int) == (n : Int)) = some j := by obtain ⟨ml⟩ := ms; simpa using hf
          refine ⟨α, .skip, undef, _, ?_, .inr ⟨rfl, rfl⟩, ⟨[], .nil, rfl⟩, g1, g2, rfl⟩
          simp [execOp, ho, hvm, Instr.entryStore, MapKept.run_getObj_map (P := P) h2, hst, asInt, asIntOf, hf', MapKept.run_setObj_map (P := P) _ h2]
    · cases hx
  · cases hx
end
end Go.Proofs.YtbddollbjajcnaaGreat
