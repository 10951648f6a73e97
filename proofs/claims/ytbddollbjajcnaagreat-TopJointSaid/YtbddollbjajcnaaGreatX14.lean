/- The evaluator: append. -/
import Derived.Test.YtbddollbjajcnaaGreatX12
namespace Go.Proofs.YtbddollbjajcnaaGreat
open Go
noncomputable section
set_option linter.unusedVariables false
set_option linter.unusedSimpArgs false
variable {P : Program}
theorem ok_buildSlice {o : Oper} {a : Act} {α : XM} {w : World} {f : XF} (k : FR1 α f a) {t : TypeId} {len : Nat} {parts : Array (Nat × Operand)} (ho : o.op = .buildSlice t len parts) {ps : List (Nat × XV)} (hp : partsX f parts.toList = some ps) {cs : List XC} (hx : buildSliceX P t len ps = some cs) : NewOK P o a α w (.row cs) (.slc len) := by
  unfold buildSliceX at hx
  split at hx
  · rename_i e hu
    cases hz : zeroX P e with
    | none => simp [hz] at hx
    | some z =>
      cases hc : z.cells with
      | none => simp [hz, hc] at hx
      | some zs =>
        cases hs : sizeX P e with
        | none => simp [hz, hc, hs] at hx
        | some sz =>
          simp only [hz, hc, hs] at hx
          have p0 := bif_pos hx
          clear hx
          obtain ⟨c1, hx1⟩ := p0
          cases c2 : Nat.beq sz 0 with
          | true => rw [c2] at hx1; cases hx1
          | false =>
            cases c3 : Nat.beq len 0 with
            | true => rw [c2, c3] at hx1; cases hx1
            | false =>
              rw [c2, c3] at hx1
              have p1 := bif_pos (c := Nat.ble (Nat.mul len sz) 1000) hx1
              clear hx1
              obtain ⟨c4, hx⟩ := p1
              have c1 := Nat.eq_of_beq_eq_true c1
              have c2 := Nat.ne_of_beq_eq_false c2
              have c3 := Nat.ne_of_beq_eq_false c3
              have c4 : len * sz ≤ 1000 := Nat.le_of_ble_eq_true c4
              unfold sizeX at hs
              unfold zeroX at hz
              cases hi : P.info? e with
              | none => simp [hi] at hs
              | some ie =>
                cases hzz : ie.zero with
                | none => simp [hi, hzz] at hz
                | some zv =>
                  simp only [hi, hzz] at hs hz
                  cases hs
                  obtain ⟨us, h1, h2⟩ := (constX_ok (α := α) hz).cells hc
                  have h1' : F2 (CR α) zs zv.cells.toList := by rw [h2]; simpa using h1
                  have h3 := made_ok h1' (by omega) len
                  rw [c1] at h3
                  obtain ⟨vs', h4, h5⟩ := fillX_ok (partsX_ok k hp) h3 hx
                  refine NewOK.slc h5 (e := e) ?_
                  have hr := run_buildSlice (P := P) w t e len (parts.map fun (i, x) => (i, a.eval x)) vs' ie zv hu hi hzz (by omega) (by
                    have := Nat.mul_ne_zero c3 c2
                    omega) (by rw [Array.toList_map]; exact h4)
                  simp only [execOp, ho, Sem.run_bind, hr, Result.andThen_ok]
                  rfl
  · cases hx
def makeSliceX (P : Program) (t : TypeId) (len : Nat) : Option (List XC) :=
  match P.underlying t with
  | some (.slice e) => match zeroX P e with
    | some z => match z.cells with
      | some zs => match P.info? e with
        | some ie => bif Nat.beq zs.length ie.size then (bif Nat.beq ie.size 0 then none else bif Nat.ble (Nat.mul ie.bytes len) 1000000 then (bif Nat.ble len 1000 then some (repX len zs) else none) else none) else none
        | none => none
      | none => none
    | none => none
  | _ => none
theorem ok_makeSlice {o : Oper} {a : Act} {α : XM} {w : World} {f : XF} (k : FR1 α f a) {t : TypeId} {y z : Operand} (ho : o.op = .makeSlice t y z) {u v : XV} (hy : evX f y = some u) (hz : evX f z = some v) {n : Nat} (hn : idxX u = some n) (hm : idxX v = some n) {cs : List XC} (hx : makeSliceX P t n = some cs) : NewOK P o a α w (.row cs) (.slc n) := by
  obtain ⟨k1, e1⟩ := idxX_ok hn (evX_ok k hy)
  obtain ⟨k2, e2⟩ := idxX_ok hm (evX_ok k hz)
  unfold makeSliceX at hx
  split at hx
  · rename_i e hu
    cases hzz : zeroX P e with
    | none => simp [hzz] at hx
    | some z' =>
      cases hc : z'.cells with
      | none => simp [hzz, hc] at hx
      | some zs =>
        cases hi : P.info? e with
        | none => simp [hzz, hc, hi] at hx
        | some ie =>
          simp only [hzz, hc, hi] at hx
          have p0 := bif_pos hx
          clear hx
          obtain ⟨c1, hx1⟩ := p0
          cases c2 : Nat.beq ie.size 0 with
          | true => rw [c2] at hx1; cases hx1
          | false =>
            rw [c2] at hx1
            have p1 := bif_pos (c := Nat.ble (Nat.mul ie.bytes n) 1000000) hx1
            clear hx1
            obtain ⟨c4, hx2⟩ := p1
            have p2 := bif_pos hx2
            clear hx2
            obtain ⟨c5, hx⟩ := p2
            cases hx
            have c1 := Nat.eq_of_beq_eq_true c1
            have c2 := Nat.ne_of_beq_eq_false c2
            have c4 : ie.bytes * n ≤ 1000000 := Nat.le_of_ble_eq_true c4
            have c5 := Nat.le_of_ble_eq_true c5
            unfold zeroX at hzz
            cases hz0 : ie.zero with
            | none => simp [hi, hz0] at hzz
            | some zv =>
              simp only [hi, hz0] at hzz
              obtain ⟨us, h1, h2⟩ := (constX_ok (α := α) hzz).cells hc
              have h1' : F2 (CR α) zs zv.cells.toList := by rw [h2]; simpa using h1
              have h3 := made_ok h1' (by omega) n
              rw [c1] at h3
              have hb : (ie.bytes : Int) * (n : Int) ≤ 281474976710656 := by
                have : ((ie.bytes * n : Nat) : Int) ≤ 281474976710656 := by omega
                rwa [Int.natCast_mul] at this
              have hr := run_make (P := P) w t e ie zv hu hi hz0 k1 k2 n n (by omega) (Int.le_refl _) hb (by omega)
              refine NewOK.slc h3 (e := e) ?_
              simp only [Int.toNat_natCast] at hr
              simp only [execOp, ho, e1, e2, Sem.run_bind, hr, Result.andThen_ok]
              rfl
  · cases hx
end
end Go.Proofs.YtbddollbjajcnaaGreat
namespace Go.Proofs.YtbddollbjajcnaaGreat
open Go
noncomputable section
set_option linter.unusedVariables false
set_option linter.unusedSimpArgs false
variable {P : Program}
/-- what is appended: how many elements, their cells -/
def srcX (s : XS) (z : Nat) (y : XV) : Option (Nat × List XC) :=
  match y with
  | .one (.slice none _ _) => some (0, [])
  | .one (.slice (some (b, o)) m _) => bif Nat.beq m 0 then some (0, []) else match rdC s b o (Nat.mul m z) with
    | some l => some (m, l)
    | none => none
  | _ => none
theorem srcX_ok {α : XM} {s : XS} {w : World} (h : HR α s w) {z : Nat} {y : XV} {v : Value} (hv : VR α y v) {m : Nat} {xs : List XC} (hy : srcX s z y = some (m, xs)) {tx e' : TypeId} (hk : P.underlying tx = some (.slice e')) :
    ∃ us, F2 (CR α) xs us ∧ Src P z tx v m us w := by
  unfold srcX at hy
  split at hy
  · cases hy
    obtain ⟨_, _, rfl⟩ := hv
    exact ⟨[], .nil, Src.ofNil w hk 0⟩
  · rename_i b o m' cap
    obtain ⟨l, c, h1, h2, rfl⟩ := CR.slc hv
    cases hb : Nat.beq m' 0 with
    | true =>
      simp only [hb, cond_true] at hy
      cases hy
      have := Nat.eq_of_beq_eq_true hb
      subst this
      exact ⟨[], .nil, Src.ofSlice w hk _ 0 c [] (by simp) (by simp) (by simp)⟩
    | false =>
      simp only [hb, cond_false] at hy
      cases hr : rdC s b o (Nat.mul m' z) with
      | none => simp only [hr] at hy; cases hy
      | some r =>
        simp only [hr] at hy
        cases hy
        obtain ⟨us, h3, h4⟩ := h.read hr h1
        obtain ⟨_, _, _, h5⟩ := rdC_spec hr
        refine ⟨us, h3, Src.ofSlice w hk _ m c us (by rw [← h3.length, h5]; rfl) (fun j u hj => ?_) h3.ones⟩
        have := h4 j u hj
        rwa [add_addr]
  · cases hy
theorem nextcap_le {need old : Nat} (h : old < need) (hn : need ≤ 1000) : Builtin.nextslicecap need old ≤ 5000 := by
  unfold Builtin.nextslicecap
  split
  · omega
  · split
    · omega
    · have g : ∀ (c : Nat), c ≤ 1000 → Builtin.growBy need 4 c ≤ 5000 := by
        intro c hc
        simp only [Builtin.growBy]
        repeat' split
        all_goals omega
      exact g old (by omega)
def sliceElem (P : Program) (t : TypeId) : Option (TypeId × Nat) :=
  match P.underlying t with
  | some (.slice e) => match P.info? e with
    | some i => match zeroX P e with
      | some z => match z.cells with
        | some zs => bif Nat.beq zs.length i.size then (bif Nat.ble i.bytes 1000 then some (e, i.size) else none) else none
        | none => none
      | none => none
    | none => none
  | _ => none
theorem sliceElem_ok {t e : TypeId} {sz : Nat} (h : sliceElem P t = some (e, sz)) : P.underlying t = some (.slice e) ∧ ∃ i z, P.info? e = some i ∧ i.size = sz ∧ i.zero = some z ∧ z.cells.size = sz ∧ i.bytes ≤ 1000 := by
  unfold sliceElem at h
  split at h
  · rename_i e' hu
    cases hi : P.info? e' with
    | none => simp [hi] at h
    | some i =>
      cases hz : zeroX P e' with
      | none => simp [hi, hz] at h
      | some z =>
        cases hc : z.cells with
        | none => simp [hi, hz, hc] at h
        | some zs =>
          simp only [hi, hz, hc] at h
          obtain ⟨c1, h1⟩ := bif_pos h
          clear h
          obtain ⟨c2, h2⟩ := bif_pos h1
          clear h1
          cases h2
          have c1 := Nat.eq_of_beq_eq_true c1
          have c2 := Nat.le_of_ble_eq_true c2
          unfold zeroX at hz
          cases hz0 : i.zero with
          | none => simp [hi, hz0] at hz
          | some zv =>
            simp only [hi, hz0] at hz
            obtain ⟨us, k1, k2⟩ := (constX_ok (α := fun _ => none) hz).cells hc
            exact ⟨hu, i, zv, hi, rfl, hz0, by rw [k2, ← c1, k1.length]; simp, c2⟩
  · cases h
/-- a new block for a slice that grows: what more it may hold is not known -/
def growX (s : XS) (c : List XC) (n z : Nat) : XV × XS := (.one (.slice (some (s.next, 0)) n (.opn z)), ⟨XT.put (some (.row c)) s.next s.heap, s.next.succ, s.k⟩)
theorem run_grow {α : XM} {s : XS} {w : World} (h : HR α s w) {t tx : TypeId} {e e' : TypeId} {sz : Nat} (hs : sliceElem P t = some (e, sz)) (hk : P.underlying tx = some (.slice e')) {base : Option Addr} {n cap : Nat} {olds : List Value} {cs : List XC} (ho : F2 (CR α) cs olds)
    (hold : (Builtin.firstCells sz n (.slice base n cap)).run P w.drew = .ok olds.toArray w.drew) (hol : olds.length = n * sz) {y : Value} {m : Nat} {xs : List XC} {us : List Value} (hx : F2 (CR α) xs us) (hsrc : Src P sz tx y m us w) (hg : cap < n + m) (hsm : n + m ≤ 1000) (ty : TypeId) :
    ∃ v w' β, (Builtin.append_ #[t, tx] ty #[.slice base n cap, y]).run P w = .ok v w' ∧ VR β (growX s (cs ++ xs) (n + m) sz).1 v ∧ HR β (growX s (cs ++ xs) (n + m) sz).2 w' ∧ GR α s w β (growX s (cs ++ xs) (n + m) sz).2 w' := by
  obtain ⟨hu, i, z, hi, rfl, hz, hzc, hby⟩ := sliceElem_ok hs
  have hn := nextcap_le hg hsm
  have hr := run_append_grow_src (P := P) w t tx ty e i z hu hi hz base n cap olds hold y m us hsrc hg (by omega) (by
    calc Builtin.nextslicecap (n + m) cap * i.bytes ≤ 5000 * 1000 := Nat.mul_le_mul hn hby
      _ ≤ 281474976710656 := by omega)
  have hge := grownCap_ge w (n + m) cap e
  generalize hG : grownCap w (n + m) cap e = G at hr hge
  have hd := h.drew
  have hlen : (cs ++ xs).length = (n + m) * i.size := by
    rw [List.length_append, ho.length, hx.length, hol, hsrc.newsLen, Nat.add_mul]
  have hsize : ((olds ++ us).toArray ++ Builtin.zeroCells z.cells (G - (n + m))).size = G * i.size := by
    have e1 : (Builtin.zeroCells z.cells (G - (n + m))).size = (G - (n + m)) * i.size := by simp [Builtin.zeroCells, hzc]
    rw [Array.size_append, e1]
    have : (olds ++ us).toArray.size = (n + m) * i.size := by
      rw [← hlen, List.length_append, ho.length, hx.length]
      simp
    rw [this, ← Nat.add_mul]
    congr 1
    omega
  have hF := ho.append hx
  obtain ⟨k1, k2⟩ := hd.new (.row (cs ++ xs)) (.cells ((olds ++ us).toArray ++ Builtin.zeroCells z.cells (G - (n + m))) e) (G * i.size) ⟨(olds ++ us).toArray ++ Builtin.zeroCells z.cells (G - (n + m)), e, by show (w.heap.push (.cells ((olds ++ us).toArray ++ Builtin.zeroCells z.cells (G - (n + m))) e))[w.heap.size]? = _; simp, by rw [hlen]; exact Nat.mul_le_mul_right _ hge, by rw [hsize]; exact Nat.le_refl _, fun j x hj => by
    obtain ⟨v, h1, h2⟩ := hF.get j x hj
    refine ⟨v, ?_, h2⟩
    rw [Array.getElem?_append_left (by have := (List.getElem?_eq_some_iff.1 h1).1; simpa using this)]
    simpa using h1⟩
  refine ⟨_, _, _, hr, ?_, k1, (GR.drew α s w).trans k2⟩
  exact ⟨⟨w.heap.size, G * i.size⟩, G, XM.put_self _ _ _, by show 0 + G * i.size ≤ G * i.size; omega, hge, rfl⟩
end
end Go.Proofs.YtbddollbjajcnaaGreat
