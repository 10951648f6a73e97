/- The evaluator: places of fields and elements, slices, elements. -/
import Derived.Test.YtbddollbjajcnaaGreatX6
namespace Go.Proofs.YtbddollbjajcnaaGreat
open Go
noncomputable section
set_option linter.unusedVariables false
set_option linter.unusedSimpArgs false
variable {P : Program}
theorem add_addr (b o n : Nat) : (⟨b, o, none⟩ : Addr).add n = ⟨b, o + n, none⟩ := by
  unfold Addr.add
  by_cases h : n = 0
  · simp [h]
  · simp [h]
def fieldAddrX (P : Program) (t : TypeId) (i : Nat) (b : XP) (o : Nat) : Option XV :=
  match fieldX P t i with
  | some fd => match sizeX P fd.type with
    | some n => bif Nat.beq n 0 then none else some (.one (.ptr (some (b, Nat.add o fd.offset))))
    | none => none
  | none => none
theorem ok_fieldAddr {o : Oper} {a : Act} {α : XM} {s : XS} {w : World} {f : XF} (h : HR α s w) (k : FR1 α f a) {t : TypeId} {y : Operand} {i : Nat} (ho : o.op = .fieldAddr t y i) {b : XP} {q : Nat} (hy : evX f y = some (.one (.ptr (some (b, q))))) {x : XV} (hx : fieldAddrX P t i b q = some x) : OpOK P o a α s w x s := by
  obtain ⟨l, h1, h2⟩ := evX_ok k hy
  unfold fieldAddrX at hx
  cases hf : fieldX P t i with
  | none => simp [hf] at hx
  | some fd =>
    cases hs : sizeX P fd.type with
    | none => simp [hf, hs] at hx
    | some n =>
      cases hb : Nat.beq n 0 with
      | true => simp only [hf, hs, hb, cond_true] at hx; cases hx
      | false =>
        simp only [hf, hs, hb, cond_false] at hx
        cases hx
        have hn : n ≠ 0 := Nat.ne_of_beq_eq_false hb
        unfold fieldX at hf
        split at hf
        · rename_i fs hu
          unfold sizeX at hs
          cases hi : P.info? fd.type with
          | none => simp [hi] at hs
          | some ti =>
            simp only [hi] at hs
            cases hs
            refine OpOK.pure (v := .pointer (some ⟨l.blk, q + fd.offset, none⟩)) ?_ ⟨l, h1, rfl⟩ h
            simp [execOp, ho, h2, Instr.fieldAt, run_underlying hu, hf, Instr.sureAddr, fieldPlace, sizeOf, typeInfo, hi, hn, add_addr]
        · cases hf
/-- a number that is no person -/
def idxX : XV → Option Nat
  | .one (.int _ (.ofNat n)) => some n
  | _ => none
theorem idxX_ok {α : XM} {x : XV} {n : Nat} {v : Value} (h : idxX x = some n) (k : VR α x v) : ∃ kk, v = .int kk (n : Int) := by
  unfold idxX at h
  split at h
  · cases h; exact ⟨_, k⟩
  · cases h
def indexAddrX (P : Program) (t : TypeId) (x : XV) (i : Nat) : Option XV :=
  match x with
  | .one (.slice (some (b, o)) n _) => match P.underlying t with
    | some (.slice e) => match sizeX P e with
      | some z => bif Nat.blt i n then some (.one (.ptr (some (b, Nat.add o (Nat.mul i z))))) else none
      | none => none
    | _ => none
  | .one (.ptr (some (b, o))) => match P.underlying t with
    | some (.array n e) => match sizeX P e with
      | some z => bif Nat.blt i n then some (.one (.ptr (some (b, Nat.add o (Nat.mul i z))))) else none
      | none => none
    | _ => none
  | _ => none
theorem ok_indexAddr {o : Oper} {a : Act} {α : XM} {s : XS} {w : World} {f : XF} (h : HR α s w) (k : FR1 α f a) {t : TypeId} {y z : Operand} (ho : o.op = .indexAddr t y z) {c d : XV} (hy : evX f y = some c) (hz : evX f z = some d) {i : Nat} (hi : idxX d = some i) {x : XV} (hx : indexAddrX P t c i = some x) : OpOK P o a α s w x s := by
  have hv := evX_ok k hy
  obtain ⟨kk, hiv⟩ := idxX_ok hi (evX_ok k hz)
  unfold indexAddrX at hx
  split at hx
  · rename_i b q n cap
    split at hx
    · rename_i e hu
      cases hs : sizeX P e with
      | none => simp [hs] at hx
      | some sz =>
        cases hb : Nat.blt i n with
        | false => simp only [hs, hb, cond_false] at hx; cases hx
        | true =>
          simp only [hs, hb, cond_true] at hx
          cases hx
          have hlt := blt_lt hb
          obtain ⟨l, c', h1, _, h2⟩ := CR.slc hv
          unfold sizeX at hs
          cases hi' : P.info? e with
          | none => simp [hi'] at hs
          | some ti =>
            simp only [hi'] at hs
            cases hs
            refine OpOK.pure (v := .pointer (some ⟨l.blk, q + i * ti.size, none⟩)) ?_ ⟨l, h1, rfl⟩ h
            simp [execOp, ho, h2, hiv, Instr.indexAt, asIntOf, run_underlying hu, sizeOf, typeInfo, hi', hlt, add_addr]
    · cases hx
  · rename_i b q
    split at hx
    · rename_i n e hu
      cases hs : sizeX P e with
      | none => simp [hs] at hx
      | some sz =>
        cases hb : Nat.blt i n with
        | false => simp only [hs, hb, cond_false] at hx; cases hx
        | true =>
          simp only [hs, hb, cond_true] at hx
          cases hx
          have hlt := blt_lt hb
          obtain ⟨l, h1, h2⟩ := hv
          unfold sizeX at hs
          cases hi' : P.info? e with
          | none => simp [hi'] at hs
          | some ti =>
            simp only [hi'] at hs
            cases hs
            refine OpOK.pure (v := .pointer (some ⟨l.blk, q + i * ti.size, none⟩)) ?_ ⟨l, h1, rfl⟩ h
            simp [execOp, ho, h2, hiv, Instr.indexAt, Instr.sureAddr, asIntOf, run_underlying hu, sizeOf, typeInfo, hi', hlt, add_addr]
    · cases hx
  · cases hx
/-- a bound of a slice -/
def bndX (f : XF) : Option Operand → Option (Option Nat)
  | none => some none
  | some o => match evX f o with
    | some x => match idxX x with
      | some n => some (some n)
      | none => none
    | none => none
def BndR : Option Nat → Option Value → Prop
  | none, u => u = none
  | some n, u => ∃ k, u = some (.int k (n : Int))
theorem bndX_ok {α : XM} {f : XF} {a : Act} (k : FR1 α f a) {o : Option Operand} {q : Option Nat} (h : bndX f o = some q) : BndR q (o.map a.eval) := by
  unfold bndX at h
  cases o with
  | none => cases h; rfl
  | some o =>
    simp only at h
    cases he : evX f o with
    | none => simp [he] at h
    | some x =>
      cases hi : idxX x with
      | none => simp [he, hi] at h
      | some n =>
        simp only [he, hi] at h
        cases h
        obtain ⟨kk, h1⟩ := idxX_ok hi (evX_ok k he)
        exact ⟨kk, by simp [h1]⟩
def orX (q : Option Nat) (d : Nat) : Nat :=
  match q with
  | some n => n
  | none => d
theorem run_bounds {isS : Bool} {len cap : Nat} {q r : Option Nat} {u v : Option Value} (hq : BndR q u) (hr : BndR r v) (h1 : orX q 0 ≤ orX r len) (h2 : orX r len ≤ cap) (w : World) :
    (Instr.sliceBounds isS len cap u v none).run P w = .ok (orX q 0, orX r len, cap) w := by
  cases q with
  | none =>
    cases r with
    | none => obtain rfl := hq; obtain rfl := hr; simp [Instr.sliceBounds, orX]
    | some m =>
      obtain rfl := hq
      obtain ⟨k, rfl⟩ := hr
      simp only [orX] at h1 h2
      have : (m : Int) ≤ (cap : Int) := by omega
      simp [Instr.sliceBounds, Instr.sliceBound, asIntOf, orX, h2, this]
  | some n =>
    cases r with
    | none =>
      obtain ⟨k, rfl⟩ := hq
      obtain rfl := hr
      simp only [orX] at h1 h2
      simp [Instr.sliceBounds, Instr.sliceBound, asIntOf, orX, h1]
    | some m =>
      obtain ⟨k, rfl⟩ := hq
      obtain ⟨j, rfl⟩ := hr
      simp only [orX] at h1 h2
      simp [Instr.sliceBounds, Instr.sliceBound, asIntOf, orX, h1, h2]
def sliceX (P : Program) (t : TypeId) (x : XV) (lo hi : Option Nat) : Option XV :=
  match x with
  | .one (.slice (some (b, o)) n (.is c)) => match P.underlying t with
    | some (.slice e) => match sizeX P e with
      | some z => bif Nat.ble (orX lo 0) (orX hi n) then (bif Nat.ble (orX hi n) c then
          some (.one (.slice (some (b, bif Nat.beq c (orX lo 0) then o else Nat.add o (Nat.mul (orX lo 0) z))) (Nat.sub (orX hi n) (orX lo 0)) (.is (Nat.sub c (orX lo 0))))) else none) else none
      | none => none
    | _ => none
  | .one (.slice (some (b, o)) n (.opn z')) => match P.underlying t with
    | some (.slice e) => match sizeX P e with
      | some z => bif Nat.beq z z' then (bif Nat.ble (orX lo 0) (orX hi n) then (bif Nat.ble (orX hi n) n then (bif Nat.beq (orX lo 0) 0 then
          some (.one (.slice (some (b, o)) (orX hi n) (.opn z))) else bif Nat.blt (orX lo 0) n then
          some (.one (.slice (some (b, Nat.add o (Nat.mul (orX lo 0) z))) (Nat.sub (orX hi n) (orX lo 0)) (.opn z))) else some .any) else none) else none) else none
      | none => none
    | _ => none
  | .one (.slice none _ _) => match P.underlying t with
    | some (.slice e) => match sizeX P e with
      | some z => bif Nat.beq (orX lo 0) 0 then (bif Nat.beq (orX hi 0) 0 then some (.one (.slice none 0 (.is 0))) else none) else none
      | none => none
    | _ => none
  | .one (.ptr (some (b, o))) => match P.underlying t with
    | some (.array n e) => match sizeX P e with
      | some z => bif Nat.ble (orX lo 0) (orX hi n) then (bif Nat.ble (orX hi n) n then
          some (.one (.slice (some (b, bif Nat.beq n (orX lo 0) then o else Nat.add o (Nat.mul (orX lo 0) z))) (Nat.sub (orX hi n) (orX lo 0)) (.is (Nat.sub n (orX lo 0))))) else none) else none
      | none => none
    | _ => none
  | _ => none
theorem sizeX_ok {e : TypeId} {z : Nat} (h : sizeX P e = some z) (w : World) : (sizeOf e).run P w = .ok z w := by
  unfold sizeX at h
  cases hi : P.info? e with
  | none => simp [hi] at h
  | some ti =>
    simp only [hi] at h
    cases h
    simp [sizeOf, typeInfo, hi]
theorem bif_pos {β : Type} {c : Bool} {x : Option β} {y : β} (h : (bif c then x else none) = some y) : c = true ∧ x = some y := by
  cases c with
  | true => exact ⟨rfl, h⟩
  | false => cases h
theorem beq_ite {β : Type} {m n : Nat} {x y : β} : (bif Nat.beq m n then x else y) = if m = n then x else y := by
  cases h : Nat.beq m n with
  | true => rw [if_pos (Nat.eq_of_beq_eq_true h)]; rfl
  | false => rw [if_neg (Nat.ne_of_beq_eq_false h)]; rfl
theorem ok_slice {o : Oper} {a : Act} {α : XM} {s : XS} {w : World} {f : XF} (h : HR α s w) (k : FR1 α f a) {t : TypeId} {y : Operand} {lo hi : Option Operand} (ho : o.op = .slice t y lo hi none) {c : XV} (hy : evX f y = some c) {q r : Option Nat} (hq : bndX f lo = some q) (hr : bndX f hi = some r) {x : XV} (hx : sliceX P t c q r = some x) : OpOK P o a α s w x s := by
  have hv := evX_ok k hy
  have hbq := bndX_ok k hq
  have hbr := bndX_ok k hr
  unfold sliceX at hx
  split at hx
  · rename_i b p n cc
    split at hx
    · rename_i e hu
      cases hs : sizeX P e with
      | none => simp [hs] at hx
      | some z =>
        simp only [hs] at hx
        obtain ⟨c1, hx⟩ := bif_pos hx
        obtain ⟨c2, hx⟩ := bif_pos hx
        cases hx
        have c1 := Nat.le_of_ble_eq_true c1
        have c2 := Nat.le_of_ble_eq_true c2
        obtain ⟨h0, l, h1, h2⟩ := hv
        have hz := sizeX_ok hs w
        have hb := run_bounds (P := P) (isS := true) hbq hbr c1 c2 w
        refine OpOK.pure (v := .slice (some ⟨l.blk, (if cc = orX q 0 then p else p + orX q 0 * z), none⟩) (orX r n - orX q 0) (cc - orX q 0)) ?_ ⟨by show orX r n - orX q 0 ≤ cc - orX q 0; omega, l, h1, ?_⟩ h
        · simp only [execOp, ho, h2, Instr.sliceAt, Sem.run_bind, run_underlying hu, Result.andThen_ok, Instr.slice, hb, hz, add_addr, Option.map_none]
          split <;> simp [add_addr]
        · rw [beq_ite]
          rfl
    · cases hx
  · rename_i b p n z'
    split at hx
    · rename_i e hu
      cases hs : sizeX P e with
      | none => simp [hs] at hx
      | some z =>
        simp only [hs] at hx
        have p0 := bif_pos hx
        clear hx
        obtain ⟨c0, hx0⟩ := p0
        obtain ⟨c1, hx1⟩ := bif_pos hx0
        clear hx0
        obtain ⟨c2, hx⟩ := bif_pos hx1
        clear hx1
        have c0 := Nat.eq_of_beq_eq_true c0
        subst c0
        have c1 := Nat.le_of_ble_eq_true c1
        have c2 := Nat.le_of_ble_eq_true c2
        obtain ⟨l, cc, h1, h3, h4, h2⟩ := hv
        have hz := sizeX_ok hs w
        have hb := run_bounds (P := P) (isS := true) hbq hbr c1 (Nat.le_trans c2 h4) w
        have run : (execOp a.eval o).run P w = .ok (.value (.slice (if cc = orX q 0 then some ⟨l.blk, p, none⟩ else some ⟨l.blk, p + orX q 0 * z, none⟩) (orX r n - orX q 0) (cc - orX q 0))) w := by
          simp only [execOp, ho, h2, Instr.sliceAt, Sem.run_bind, run_underlying hu, Result.andThen_ok, Instr.slice, hb, hz, Option.map_none, Option.map_some, add_addr]
          rfl
        cases c3 : Nat.beq (orX q 0) 0 with
        | true =>
          simp only [c3, cond_true] at hx
          cases hx
          have c3 := Nat.eq_of_beq_eq_true c3
          rw [c3] at run
          refine OpOK.pure run ⟨l, cc, h1, h3, by omega, ?_⟩ h
          simp
        | false =>
          simp only [c3, cond_false] at hx
          cases c4 : Nat.blt (orX q 0) n with
          | false =>
            rw [c4] at hx
            cases hx
            exact OpOK.pure run trivial h
          | true =>
            rw [c4] at hx
            cases hx
            have c4 := blt_lt c4
            rw [if_neg (by omega)] at run
            refine OpOK.pure run ⟨l, cc - orX q 0, h1, ?_, by show orX r n - orX q 0 ≤ _; omega, rfl⟩ h
            show p + orX q 0 * z + (cc - orX q 0) * z ≤ l.room
            rw [Nat.sub_mul]
            have : orX q 0 * z ≤ cc * z := Nat.mul_le_mul_right _ (by omega)
            omega
    · cases hx
  · split at hx
    · rename_i e hu
      cases hs : sizeX P e with
      | none => simp [hs] at hx
      | some z =>
        simp only [hs] at hx
        obtain ⟨c1, hx⟩ := bif_pos hx
        obtain ⟨c2, hx⟩ := bif_pos hx
        cases hx
        have c1 := Nat.eq_of_beq_eq_true c1
        have c2 := Nat.eq_of_beq_eq_true c2
        obtain ⟨_, _, h2⟩ := hv
        have hz := sizeX_ok hs w
        have hb := run_bounds (P := P) (isS := true) (len := 0) (cap := 0) hbq hbr (by omega) (by omega) w
        rw [c1, c2] at hb
        refine OpOK.pure (v := .slice none 0 0) ?_ ⟨rfl, rfl, rfl⟩ h
        simp [execOp, ho, h2, Instr.sliceAt, run_underlying hu, Instr.slice, hb, hz]
    · cases hx
  · rename_i b p
    split at hx
    · rename_i n e hu
      cases hs : sizeX P e with
      | none => simp [hs] at hx
      | some z =>
        simp only [hs] at hx
        obtain ⟨c1, hx⟩ := bif_pos hx
        obtain ⟨c2, hx⟩ := bif_pos hx
        cases hx
        have c1 := Nat.le_of_ble_eq_true c1
        have c2 := Nat.le_of_ble_eq_true c2
        obtain ⟨l, h1, h2⟩ := hv
        have hz := sizeX_ok hs w
        have hb := run_bounds (P := P) (isS := false) hbq hbr c1 c2 w
        refine OpOK.pure (v := .slice (some ⟨l.blk, (if n = orX q 0 then p else p + orX q 0 * z), none⟩) (orX r n - orX q 0) (n - orX q 0)) ?_ ⟨by show orX r n - orX q 0 ≤ n - orX q 0; omega, l, h1, ?_⟩ h
        · simp only [execOp, ho, h2, Instr.sliceAt, Instr.sureAddr, Sem.run_bind, run_underlying hu, Result.andThen_ok, Sem.run_pure, hb, hz, add_addr, Option.map_none]
          split <;> simp [add_addr]
        · rw [beq_ite]
          rfl
    · cases hx
  · cases hx
end
end Go.Proofs.YtbddollbjajcnaaGreat
