/- The evaluator: maps and functions made, lengths, walks over maps. -/
import Derived.Test.YtbddollbjajcnaaGreatX10
namespace Go.Proofs.YtbddollbjajcnaaGreat
open Go Go.MapKept
noncomputable section
set_option linter.unusedVariables false
set_option linter.unusedSimpArgs false
variable {P : Program}
theorem ok_makeMap {o : Oper} {a : Act} {α : XM} {w : World} {t : TypeId} (ho : o.op = .makeMap t none) : NewOK P o a α w (.map [] 0) .map := by
  refine ⟨.map (some w.heap.size), .map #[] 0, 0, ?_, ⟨#[], by show (w.heap.push _)[w.heap.size]? = _; simp, .nil⟩, fun β n hn => ⟨_, hn, rfl⟩⟩
  simp [execOp, ho, Instr.makeMap, newObj, Sem.run]
/-- pointers that are held by a function -/
def ptrsX (f : XF) : List Operand → Option (List (Option XA))
  | [] => some []
  | o :: l => match evX f o with
    | some (.one (.ptr p)) => match ptrsX f l with
      | some m => some (p :: m)
      | none => none
    | _ => none
theorem ptrsX_ok {α : XM} {f : XF} {a : Act} (k : FR1 α f a) : ∀ {l : List Operand} {m : List (Option XA)}, ptrsX f l = some m → F2 (PR α) m (l.map a.eval)
  | [], m, h => by cases h; exact .nil
  | o :: l, m, h => by
    unfold ptrsX at h
    split at h
    · rename_i p hp
      cases hl : ptrsX f l with
      | none => simp [hl] at h
      | some n =>
        simp only [hl] at h
        cases h
        exact .cons (evX_ok k hp) (ptrsX_ok k hl)
    · cases h
theorem ok_makeFunc {o : Oper} {a : Act} {α : XM} {s : XS} {w : World} {f : XF} (h : HR α s w) (k : FR1 α f a) {g : FuncId} {first cap : Array Operand} (ho : o.op = .makeFunc (.func g) first cap) {xs ys : List (Option XA)} (hx : ptrsX f first.toList = some xs) (hy : ptrsX f cap.toList = some ys) : OpOK P o a α s w (.one (.fn g xs ys)) s := by
  refine OpOK.pure (v := .func (.func g) (first.toList.map a.eval).toArray (cap.toList.map a.eval).toArray) ?_ ⟨_, _, ptrsX_ok k hx, ptrsX_ok k hy, rfl⟩ h
  obtain ⟨f1⟩ := first
  obtain ⟨c1⟩ := cap
  simp [execOp, ho, Instr.makeFunc]
theorem run_builtin {o : Oper} {a : Act} {b : Builtin} {args : Array Operand} {tys : Array TypeId} (ho : o.op = .call ⟨.builtin b, args, tys⟩) (w : World) :
    (execOp a.eval o).run P w = (builtin b tys o.type (args.map fun | .const _ => true | _ => false) (args.map a.eval)).run P w := by
  simp [execOp, ho, resolve, invoke]
  rfl
def lenX (P : Program) (s : XS) (t : TypeId) (x : XV) : Option Nat :=
  match P.underlying t, x with
  | some .string, .one (.str b) => some b.size
  | some (.slice _), .one (.slice _ n _) => some n
  | some (.map _ _), x => match mapX s x with
    | some es => some es.length
    | none => none
  | _, _ => none
theorem CR.len {α : XM} {p : Option XA} {n : Nat} {cap : XCap} {v : Value} (h : CR α (.slice p n cap) v) : ∃ q c, v = .slice q n c := by
  cases p with
  | none => obtain ⟨rfl, _, rfl⟩ := h; exact ⟨_, _, rfl⟩
  | some p =>
    obtain ⟨b, o⟩ := p
    obtain ⟨l, c, _, _, rfl⟩ := h.slc
    exact ⟨_, _, rfl⟩
theorem ok_len {o : Oper} {a : Act} {α : XM} {s : XS} {w : World} {f : XF} (h : HR α s w) (k : FR1 α f a) {y : Operand} {t : TypeId} {tys : Array TypeId} (ho : o.op = .call ⟨.builtin .len, #[y], tys⟩) (ht : tys[0]? = some t) {x : XV} (hy : evX f y = some x) {n : Nat} (hx : lenX P s t x = some n) : OpOK P o a α s w (.one (.int .i64 (Int.ofNat n))) s := by
  have hv := evX_ok k hy
  have key : (Builtin.len_ tys o.type #[a.eval y]).run P w = .ok (.int .i64 (n : Int)) w := by
    unfold lenX at hx
    split at hx
    · rename_i b hu
      cases hx
      have hv : a.eval y = .string b := hv
      simp [Builtin.len_, ht, hv, run_underlying hu, goInt]
    · rename_i e p m cap hu
      cases hx
      obtain ⟨q, c, hv⟩ := CR.len hv
      simp [Builtin.len_, ht, hv, run_underlying hu, goInt]
    · rename_i d1 d2 xx kt et hu
      cases hm : mapX s d1 with
      | none => simp [hm] at hx
      | some es =>
        simp only [hm] at hx
        cases hx
        obtain ⟨ms, h1, h2⟩ := mapX_ok h hv hm
        have hl := h1.length
        rcases h2 with ⟨e1, e2⟩ | ⟨r, c, e1, e2⟩
        · subst e2
          simp at hl
          simp [Builtin.len_, ht, e1, run_underlying hu, goInt, hl]
        · have e3 := MapKept.run_getObj_map (P := P) e2
          have hl' : es.length = ms.size := by simpa using hl
          simp [Builtin.len_, ht, e1, run_underlying hu, goInt, e3, hl']
    · cases hx
  refine OpOK.pure (v := .int .i64 (n : Int)) ?_ rfl h
  rw [run_builtin ho]
  simp [builtin, key]
end
end Go.Proofs.YtbddollbjajcnaaGreat
