/- The evaluator: maps. -/
import Derived.Test.YtbddollbjajcnaaGreatX8
namespace Go.Proofs.YtbddollbjajcnaaGreat
open Go Go.MapKept
noncomputable section
set_option linter.unusedVariables false
set_option linter.unusedSimpArgs false
variable {P : Program}
inductive XKey where
  | plain (s : XSh)
  | wide (sh : List XSh)
def keyShape (P : Program) (k : TypeId) : Option XKey :=
  match P.underlying k with
  | some .bool => some (.plain .bool)
  | some (.int q) => some (.plain (.int q))
  | some .string => some (.plain .str)
  | some (.struct _) => bif P.keyTypeAt 8 k then (bif P.tiled 8 k then (bif P.keyType k then (match shapeX P (P.types.size + 1) k with | some sh => some (.wide sh) | none => none) else none) else none) else none
  | _ => none
def KOK : XKey → Value → Prop
  | .plain s, v => Fit s v
  | .wide sh, v => ∃ vs, v = .agg vs.toArray ∧ F2 Fit sh vs
structure KL (P : Program) (k : TypeId) (ok : Value → Prop) : Prop where
  check : ∀ (w : World) (em : Bool) {v : Value}, ok v → (Instr.checkKey em 10000 k v).run P w = .ok () w
  find : ∀ (w : World) {x : Value}, ok x → ∀ es : List MapEntry, (∀ e ∈ es, ok e.key) →
    ((Instr.findKey k x es).run P w = .ok none w ∧ ∀ e ∈ es, e.key ≠ x) ∨ ∃ j e, (Instr.findKey k x es).run P w = .ok (some (j, e.val)) w ∧ es[j]? = some e ∧ e.key = x
  stays : ∀ (w : World) {v : Value}, ok v → (Instr.keyThatStays v v).run P w = .ok v w
theorem kl_plain {k : TypeId} {d : TypeDesc} (hd : P.underlying k = some d) {ok : Value → Prop} (hok : ∀ v, ok v → IsKey d v) : KL P k ok where
  check w em v h := run_checkKey hd (hok v h) em 9999
  find w x hx es hes := by
    rcases findNow_spec (hok x hx) es 0 (fun e he => hok _ (hes e he)) with ⟨h1, h2⟩ | ⟨j, e, h1, h2, h3⟩
    · exact .inl ⟨run_findKey hd h1, h2⟩
    · exact .inr ⟨j, e, by rw [run_findKey hd h1]; simp, h2, h3⟩
  stays w v h := by
    have := hok v h
    have hs : Instr.sameBits 10000 v v = true := by
      cases d <;> cases v <;> simp_all [IsKey, Instr.sameBits, bytes_beq]
    simp [Instr.keyThatStays, hs]
theorem kl_of {k : TypeId} {K : XKey} (h : keyShape P k = some K) : KL P k (KOK K) := by
  unfold keyShape at h
  split at h
  · rename_i hu
    cases h
    exact kl_plain hu fun v hv => by obtain ⟨b, rfl⟩ := hv; trivial
  · rename_i q hu
    cases h
    exact kl_plain hu fun v hv => by obtain ⟨n, rfl, _⟩ := hv; rfl
  · rename_i hu
    cases h
    exact kl_plain hu fun v hv => by obtain ⟨s, rfl, _⟩ := hv; trivial
  · rename_i fs hu
    obtain ⟨hk, h⟩ := bif_pos h
    obtain ⟨ht, h⟩ := bif_pos h
    obtain ⟨hkt, h⟩ := bif_pos h
    split at h
    · rename_i sh hsh
      cases h
      have law : WideMaps.KeyLaw P k := deep_law (m := 8) (by omega) hk ht (by rw [hu])
      have key : ∀ {v : Value}, KOK (.wide sh) v → ∃ l, keyOf P k v = some l := by
        intro v hv
        obtain ⟨vs, rfl, hf⟩ := hv
        obtain ⟨la, hl⟩ := shapeX_ok _ _ _ hsh vs hf
        have hlen : vs.length = P.cellsOf k := by
          have hl' := hl
          unfold Program.keyLits at hl'
          simp only [hu] at hl'
          split at hl'
          · rename_i hh; exact hh.1
          · cases hl'
        refine ⟨.string (keyBytes la), ?_⟩
        unfold keyOf
        simp [hu, hkt, Value.formed, hlen, Value.cells, hl]
      exact
        { check := fun w em v hv => by obtain ⟨l, hl⟩ := key hv; exact law.check w em hl
          find := fun w x hx es hes => by obtain ⟨l, hl⟩ := key hx; exact law.find w hl es fun e he => key (hes e he)
          stays := fun w v hv => by obtain ⟨l, hl⟩ := key hv; exact law.stays w hl }
    · cases h
  · cases h
def vFits : XKey → XV → Bool
  | .plain s, .one c => fitC s c
  | .wide sh, .agg l => fitsC sh l
  | _, _ => false
theorem vFits_ok {α : XM} (h : SymOK α) {K : XKey} {x : XV} {v : Value} (hv : VR α x v) (hf : vFits K x = true) : KOK K v := by
  unfold vFits at hf
  split at hf
  · exact fitC_ok h hv hf
  · obtain ⟨vs, h1, rfl⟩ := hv
    exact ⟨vs, rfl, fitsC_ok h h1 hf⟩
  · cases hf
def keysFit (K : XKey) : List (XV × XV × Nat) → Bool
  | [] => true
  | e :: es => bif vFits K e.1 then keysFit K es else false
theorem keysFit_ok {α : XM} (h : SymOK α) {K : XKey} : ∀ {es : List (XV × XV × Nat)} {ms : List MapEntry}, F2 (ER α) es ms → keysFit K es = true → ∀ e ∈ ms, KOK K e.key
  | [], _, .nil, _ => by simp
  | e :: es, _, .cons h1 h2, hf => by
    unfold keysFit at hf
    cases hb : vFits K e.1 with
    | false => rw [hb] at hf; cases hf
    | true =>
      rw [hb] at hf
      intro m hm
      rcases List.mem_cons.1 hm with rfl | hm
      · exact vFits_ok h h1.1 hb
      · exact keysFit_ok h h2 hf m hm
def findX (x : XV) : List (XV × XV × Nat) → Option (Option Nat)
  | [] => some none
  | e :: es => match valEq x e.1 with
    | some true => match findX x es with
      | some none => some (some 0)
      | _ => none
    | some false => match findX x es with
      | some none => some none
      | some (some j) => some (some (Nat.succ j))
      | none => none
    | none => none
theorem findX_ok {α : XM} (h : SymOK α) {x : XV} {v : Value} (hv : VR α x v) : ∀ {es : List (XV × XV × Nat)} {ms : List MapEntry}, F2 (ER α) es ms → ∀ {q : Option Nat}, findX x es = some q →
    match q with
    | none => ∀ e ∈ ms, e.key ≠ v
    | some j => (∃ e, ms[j]? = some e ∧ e.key = v) ∧ ∀ n e, ms[n]? = some e → e.key = v → n = j
  | [], _, .nil, q, hq => by cases hq; simp
  | e :: es, m :: ms, .cons h1 h2, q, hq => by
    unfold findX at hq
    split at hq
    · rename_i hc
      have he := (valEq_ok h hv h1.1 hc).2 rfl
      split at hq
      · rename_i hr
        cases hq
        have ih := findX_ok h hv h2 hr
        refine ⟨⟨m, rfl, he.symm⟩, fun n e' hn hk => ?_⟩
        cases n with
        | zero => rfl
        | succ n => exact absurd hk (ih e' (List.mem_of_getElem? (by simpa using hn)))
      · cases hq
    · rename_i hc
      have hne : m.key ≠ v := fun e => by
        have := (valEq_ok h hv h1.1 hc).1 e.symm
        cases this
      split at hq
      · rename_i hr
        cases hq
        have ih := findX_ok h hv h2 hr
        intro e' he'
        rcases List.mem_cons.1 he' with rfl | he'
        · exact hne
        · exact ih e' he'
      · rename_i j hr
        cases hq
        obtain ⟨⟨e', i1, i2⟩, i3⟩ := findX_ok h hv h2 hr
        refine ⟨⟨e', by simpa using i1, i2⟩, fun n e2 hn hk => ?_⟩
        cases n with
        | zero => simp at hn; subst hn; exact absurd hk hne
        | succ n => rw [i3 n e2 (by simpa using hn) hk]
      · cases hq
    · cases hq
def FindR (P : Program) (k : TypeId) (v : Value) (ms : List MapEntry) (w : World) : Option Nat → Prop
  | none => (Instr.findKey k v ms).run P w = .ok none w
  | some j => ∃ e, (Instr.findKey k v ms).run P w = .ok (some (j, e.val)) w ∧ ms[j]? = some e ∧ e.key = v
/-- what findKey gives -/
theorem run_find {α : XM} (h : SymOK α) {k : TypeId} {K : XKey} (hK : keyShape P k = some K) {x : XV} {v : Value} (hv : VR α x v) (hf : vFits K x = true) {es : List (XV × XV × Nat)} {ms : List MapEntry} (he : F2 (ER α) es ms) (hfs : keysFit K es = true) {q : Option Nat} (hq : findX x es = some q) (w : World) : FindR P k v ms w q := by
  have hk := kl_of hK
  have hx := vFits_ok h hv hf
  have hes := keysFit_ok h he hfs
  have h3 := findX_ok h hv he hq
  rcases hk.find w hx ms hes with ⟨h1, h2⟩ | ⟨j, e, h1, h2, h4⟩
  · cases q with
    | none => exact h1
    | some j =>
      obtain ⟨⟨e, h5, h6⟩, _⟩ := h3
      exact absurd h6 (h2 e (List.mem_of_getElem? h5))
  · cases q with
    | none => exact absurd h4 (h3 e (List.mem_of_getElem? h2))
    | some i =>
      have := h3.2 j e h2 h4
      subst this
      exact ⟨e, h1, h2, h4⟩
/-- an entry of a tuple -/
def wrapX : XV → Option (Bool × List XC)
  | .one c => some (false, [c])
  | .agg l => some (true, l)
  | _ => none
theorem wrapX_ok {α : XM} {x : XV} {v : Value} (h : VR α x v) {y : Bool × List XC} (hy : wrapX x = some y) : WR α y v := by
  cases x with
  | one c => cases hy; exact ⟨c, rfl, h⟩
  | agg l => cases hy; exact h
  | tup l => cases hy
  | any => cases hy
theorem zeroX_ok {α : XM} {e : TypeId} {z : XV} (h : zeroX P e = some z) (w : World) : ∃ v, (zeroValue e).run P w = .ok v w ∧ VR α z v := by
  unfold zeroX at h
  cases hi : P.info? e with
  | none => simp [hi] at h
  | some i =>
    cases hz : i.zero with
    | none => simp [hi, hz] at h
    | some v =>
      simp only [hi, hz] at h
      exact ⟨v, by simp [zeroValue, typeInfo, hi, hz], constX_ok h⟩
/-- a map's entries -/
def mapX (s : XS) (m : XV) : Option (List (XV × XV × Nat)) :=
  match m with
  | .one (.map none) => some []
  | .one (.map (some b)) => match XT.get b s.heap with
    | some (.map es _) => some es
    | _ => none
  | _ => none
/-- the value of a key, and whether there is one -/
def lookX (P : Program) (k e : TypeId) (es : List (XV × XV × Nat)) (ix : XV) : Option (XV × Bool) :=
  match keyShape P k with
  | some K => bif vFits K ix then (bif keysFit K es then
      (match findX ix es with
      | some (some j) => match es[j]? with
        | some y => some (y.2.1, true)
        | none => none
      | some none => match zeroX P e with
        | some z => some (z, false)
        | none => none
      | none => none) else none) else none
  | none => none
theorem run_look {α : XM} (h : SymOK α) {k e : TypeId} {es : List (XV × XV × Nat)} {ms : List MapEntry} (he : F2 (ER α) es ms) {ix : XV} {v : Value} (hv : VR α ix v) {y : XV} {b : Bool} (hl : lookX P k e es ix = some (y, b)) (em : Bool) (w : World) :
    (Instr.checkKey em 10000 k v).run P w = .ok () w ∧ ∃ u, VR α y u ∧ ((b = true ∧ ∃ j, (Instr.findKey k v ms).run P w = .ok (some (j, u)) w) ∨ (b = false ∧ (Instr.findKey k v ms).run P w = .ok none w ∧ (zeroValue e).run P w = .ok u w)) := by
  unfold lookX at hl
  cases hK : keyShape P k with
  | none => simp [hK] at hl
  | some K =>
    simp only [hK] at hl
    obtain ⟨hf, hl⟩ := bif_pos hl
    obtain ⟨hfs, hl⟩ := bif_pos hl
    refine ⟨(kl_of hK).check w em (vFits_ok h hv hf), ?_⟩
    cases hq : findX ix es with
    | none => simp [hq] at hl
    | some q =>
      have hr := run_find h hK hv hf he hfs hq w
      cases q with
      | none =>
        cases hz : zeroX P e with
        | none => simp [hq, hz] at hl
        | some z =>
          simp only [hq, hz] at hl
          cases hl
          obtain ⟨u, h1, h2⟩ := zeroX_ok (α := α) hz w
          have hr : (Instr.findKey k v ms).run P w = .ok none w := hr
          exact ⟨u, h2, .inr ⟨rfl, hr, h1⟩⟩
      | some j =>
        cases hj : es[j]? with
        | none => simp [hq, hj] at hl
        | some y' =>
          simp only [hq, hj] at hl
          cases hl
          obtain ⟨m, h1, h2, h3⟩ := hr
          obtain ⟨m', h4, h5⟩ := he.get j _ hj
          rw [h2] at h4
          cases h4
          exact ⟨m.val, h5.2.1, .inl ⟨rfl, j, h1⟩⟩
def lookupX (P : Program) (s : XS) (t : TypeId) (m ix : XV) (ok : Bool) : Option XV :=
  match P.underlying t with
  | some (.map k e) => match mapX s m with
    | some es => match lookX P k e es ix with
      | some (y, b) => bif ok then (match wrapX y with
        | some z => some (.tup [z, (false, [.bool b])])
        | none => none) else some y
      | none => none
    | none => none
  | _ => none
/-- the entries of a map, and how they are read -/
theorem mapX_ok {α : XM} {s : XS} {w : World} (h : HR α s w) {m : XV} {v : Value} (hm : VR α m v) {es : List (XV × XV × Nat)} (he : mapX s m = some es) :
    ∃ ms : Array MapEntry, F2 (ER α) es ms.toList ∧ (v = .map none ∧ ms = #[] ∨ ∃ r c, v = .map (some r) ∧ w.heap[r]? = some (.map ms c)) := by
  unfold mapX at he
  split at he
  · cases he
    exact ⟨#[], .nil, .inl ⟨hm, rfl⟩⟩
  · rename_i b
    split at he
    · rename_i es' c hb
      cases he
      obtain ⟨l, h1, h2⟩ := hm
      obtain ⟨l', h3, ms, h4, h5⟩ := h.live b _ hb
      rw [h1] at h3
      cases h3
      exact ⟨ms, h5, .inr ⟨l.blk, c, h2, h4⟩⟩
    · cases he
  · cases he
theorem ok_lookup {o : Oper} {a : Act} {α : XM} {s : XS} {w : World} {f : XF} (h : HR α s w) (k : FR1 α f a) {t : TypeId} {y z : Operand} {ok : Bool} (ho : o.op = .lookup t y z ok) {m ix : XV} (hy : evX f y = some m) (hz : evX f z = some ix) {x : XV} (hx : lookupX P s t m ix ok = some x) : OpOK P o a α s w x s := by
  have hv := evX_ok k hy
  have hi := evX_ok k hz
  unfold lookupX at hx
  split at hx
  · rename_i kt et hu
    cases hm : mapX s m with
    | none => simp [hm] at hx
    | some es =>
      cases hl : lookX P kt et es ix with
      | none => simp [hm, hl] at hx
      | some yb =>
        obtain ⟨y', b⟩ := yb
        simp only [hm, hl] at hx
        obtain ⟨ms, h1, h2⟩ := mapX_ok h hv hm
        obtain ⟨h3, u, h4, h5⟩ := run_look (P := P) h.sym h1 hi hl ms.isEmpty w
        have run : (execOp a.eval o).run P w = .ok (.value (if ok then .tuple #[u, .bool b] else u)) w := by
          rcases h2 with ⟨e1, e2⟩ | ⟨r, c, e1, e2⟩
          · subst e2
            rcases h5 with ⟨rfl, j, h6⟩ | ⟨rfl, h6, h7⟩
            · simp [execOp, ho, e1, Instr.lookup, run_underlying hu]
              simp at h3 h6
              simp [h3, h6]
            · simp [execOp, ho, e1, Instr.lookup, run_underlying hu]
              simp at h3 h6
              simp [h3, h6, h7]
          · have e3 := MapKept.run_getObj_map (P := P) e2
            rcases h5 with ⟨rfl, j, h6⟩ | ⟨rfl, h6, h7⟩
            · simp only [execOp, ho, e1, Instr.lookup, run_underlying hu, Sem.run_bind, Result.andThen_ok, e3, Sem.run_pure, h3, h6]
            · simp only [execOp, ho, e1, Instr.lookup, run_underlying hu, Sem.run_bind, Result.andThen_ok, e3, Sem.run_pure, h3, h6, h7]
        cases ok with
        | false =>
          simp only [cond_false] at hx
          cases hx
          exact OpOK.pure run h4 h
        | true =>
          simp only [cond_true] at hx
          cases hw : wrapX y' with
          | none => simp [hw] at hx
          | some z' =>
            simp only [hw] at hx
            cases hx
            refine OpOK.pure run ⟨[u, .bool b], .cons (wrapX_ok h4 hw) (.cons ⟨.bool b, rfl, rfl⟩ .nil), rfl⟩ h
  · cases hx
end
end Go.Proofs.YtbddollbjajcnaaGreat
