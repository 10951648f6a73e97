/- The evaluator: append (2). -/
import Derived.Test.YtbddollbjajcnaaGreatX14
namespace Go.Proofs.YtbddollbjajcnaaGreat
open Go
noncomputable section
set_option linter.unusedVariables false
set_option linter.unusedSimpArgs false
variable {P : Program}
def appendX (P : Program) (s : XS) (t : TypeId) (x y : XV) : Option (XV × XS) :=
  match sliceElem P t with
  | some (_, z) => match srcX s z y with
    | some (m, xs) => match x with
      | .one (.slice none _ _) => bif Nat.beq m 0 then some (.one (.slice none 0 (.is 0)), s) else bif Nat.ble (Nat.add 0 m) 1000 then some (growX s (List.append [] xs) (Nat.add 0 m) z) else none
      | .one (.slice (some (b, o)) n (.is c)) => bif Nat.ble (Nat.add n m) c then
          (match wrC s b (Nat.add o (Nat.mul n z)) xs with
          | some s' => some (.one (.slice (some (b, o)) (Nat.add n m) (.is c)), s')
          | none => none)
        else (match rdC s b o (Nat.mul n z) with
          | some cs => bif Nat.ble (Nat.add n m) 1000 then some (growX s (List.append cs xs) (Nat.add n m) z) else none
          | none => none)
      | .one (.slice (some (b, o)) n (.opn z')) => bif Nat.beq m 0 then some (.one (.slice (some (b, o)) n (.opn z')), s) else
          bif Nat.beq o 0 then (bif Nat.beq z z' then (bif s.may b then
          (match XT.get b s.heap with
          | some (.row cs) => bif Nat.beq cs.length (Nat.mul n z) then (bif Nat.ble (Nat.add n m) 1000 then
              some (growX ⟨XT.put none b s.heap, s.next, s.k⟩ (List.append cs xs) (Nat.add n m) z) else none) else none
          | _ => none) else none) else none) else none
      | _ => none
    | none => none
  | none => none
/-- what append does -/
def AppOK (P : Program) (α : XM) (s : XS) (w : World) (t tx ty : TypeId) (u v : Value) (x : XV) (t' : XS) : Prop :=
  ∃ r w' β, (Builtin.append_ #[t, tx] ty #[u, v]).run P w = .ok r w' ∧ VR β x r ∧ HR β t' w' ∧ GR α s w β t' w' ∧ t'.k = s.k
theorem app_nil {w : World} {t tx ty e e' : TypeId} {z : Nat} (hs : sliceElem P t = some (e, z)) (hk : P.underlying tx = some (.slice e')) {v : Value} {us : List Value} (hsrc : Src P z tx v 0 us w) : (Builtin.append_ #[t, tx] ty #[.slice none 0 0, v]).run P w = .ok (.slice none 0 0) w := by
  obtain ⟨hu, i, z', hi, rfl, hz, _, _⟩ := sliceElem_ok hs
  simp [Builtin.append_, run_underlying hu, run_underlying hk, sizeOf, typeInfo, hi, hsrc.len, hsrc.cells]
theorem app_room {w : World} {t tx ty e : TypeId} {z : Nat} (hs : sliceElem P t = some (e, z)) {b off n c m : Nat} {v : Value} {us : List Value} (hsrc : Src P z tx v m us w) (hroom : n + m ≤ c) (hthere : w.there b (off + n * z) us.length) :
    (Builtin.append_ #[t, tx] ty #[.slice (some ⟨b, off, none⟩) n c, v]).run P w = .ok (.slice (some ⟨b, off, none⟩) (n + m) c) (w.setCells b (off + n * z) us) := by
  obtain ⟨hu, i, z', hi, rfl, hz, _, _⟩ := sliceElem_ok hs
  exact run_append_room_src w t tx ty e i hu hi b off n c v m us hsrc hroom (fun j hj => (hthere j hj).1) (fun j hj => (hthere j hj).2)
theorem there_nil {w : World} {b o : Nat} : w.there b o ([] : List Value).length := fun j hj => absurd hj (Nat.not_lt_zero _)
theorem append_ok {α : XM} {s t' : XS} {w : World} (h : HR α s w) {t tx ty e' : TypeId} (hk : P.underlying tx = some (.slice e')) {x y r : XV} {u v : Value} (hu : VR α x u) (hv : VR α y v) (hx : appendX P s t x y = some (r, t')) : AppOK P α s w t tx ty u v r t' := by
  unfold appendX at hx
  cases hs : sliceElem P t with
  | none => simp [hs] at hx
  | some ez =>
    obtain ⟨e, z⟩ := ez
    cases hy : srcX s z y with
    | none => simp [hs, hy] at hx
    | some mx =>
      obtain ⟨m, xs⟩ := mx
      simp only [hs, hy] at hx
      obtain ⟨us, hF, hsrc⟩ := srcX_ok (P := P) h hv hy hk
      split at hx
      · obtain ⟨_, _, rfl⟩ := hu
        cases hm : Nat.beq m 0 with
        | true =>
          simp only [hm, cond_true] at hx
          cases hx
          have := Nat.eq_of_beq_eq_true hm
          subst this
          exact ⟨_, w, α, app_nil hs hk hsrc, ⟨rfl, rfl, rfl⟩, h, GR.refl _ _ _, rfl⟩
        | false =>
          simp only [hm, cond_false] at hx
          have hm := Nat.ne_of_beq_eq_false hm
          obtain ⟨c1, hx1⟩ := bif_pos hx
          clear hx
          cases hx1
          have c1 := Nat.le_of_ble_eq_true c1
          obtain ⟨r, w', β, h1, h2, h3, h4⟩ := run_grow (P := P) h hs hk (base := none) (n := 0) (cap := 0) (olds := []) (cs := []) .nil (by simp [Builtin.firstCells]) (by simp) hF hsrc (by omega) c1 ty
          exact ⟨r, w', β, h1, h2, h3, h4, rfl⟩
      · rename_i b o n c
        obtain ⟨h0, l, hl, rfl⟩ := hu
        cases hc : Nat.ble (Nat.add n m) c with
        | true =>
          simp only [hc, cond_true] at hx
          cases hw : wrC s b (Nat.add o (Nat.mul n z)) xs with
          | none => simp only [hw] at hx; cases hx
          | some s' =>
            simp only [hw] at hx
            cases hx
            obtain ⟨h1, h2, h3⟩ := h.wr hw hF hl
            exact ⟨_, _, α, app_room hs hsrc (Nat.le_of_ble_eq_true hc) h1, ⟨Nat.le_of_ble_eq_true hc, l, hl, rfl⟩, h2, h3, wrC_k hw⟩
        | false =>
          simp only [hc, cond_false] at hx
          have hc' : ¬ n + m ≤ c := fun q => by rw [show Nat.ble (Nat.add n m) c = true from Nat.ble_eq_true_of_le q] at hc; cases hc
          cases hr : rdC s b o (Nat.mul n z) with
          | none => simp only [hr] at hx; cases hx
          | some cs =>
            simp only [hr] at hx
            obtain ⟨c1, hx1⟩ := bif_pos hx
            clear hx
            cases hx1
            have c1 := Nat.le_of_ble_eq_true c1
            obtain ⟨vs, h1, h2⟩ := h.read hr hl
            obtain ⟨_, _, _, h5⟩ := rdC_spec hr
            have hlen : vs.length = n * z := by rw [← h1.length, h5]; rfl
            obtain ⟨r, w', β, h1, h2, h3, h4⟩ := run_grow (P := P) h hs hk (base := some ⟨l.blk, o, none⟩) (n := n) (cap := c) (olds := vs) h1 (run_firstCells_some w.drew z n _ n c vs hlen fun j q hj => by rw [add_addr]; exact h2 j q hj) hlen hF hsrc (by omega) c1 ty
            exact ⟨r, w', β, h1, h2, h3, h4, rfl⟩
      · rename_i b o n z'
        cases hm : Nat.beq m 0 with
        | true =>
          simp only [hm, cond_true] at hx
          cases hx
          have := Nat.eq_of_beq_eq_true hm
          subst this
          have hu' := hu
          obtain ⟨l, c, hl, h1, h2, rfl⟩ := hu
          have : us = [] := List.eq_nil_of_length_eq_zero (by rw [hsrc.newsLen]; simp)
          subst this
          exact ⟨_, w, α, app_room hs hsrc (by omega) there_nil, hu', h, GR.refl _ _ _, rfl⟩
        | false =>
          simp only [hm, cond_false] at hx
          have hm := Nat.ne_of_beq_eq_false hm
          obtain ⟨c1, hx1⟩ := bif_pos hx
          clear hx
          obtain ⟨c2, hx2⟩ := bif_pos hx1
          clear hx1
          obtain ⟨hmay, hx3⟩ := bif_pos hx2
          clear hx2
          split at hx3
          · rename_i cs hb
            obtain ⟨c3, hx4⟩ := bif_pos hx3
            clear hx3
            obtain ⟨c4, hx5⟩ := bif_pos hx4
            clear hx4
            cases hx5
            have c1 := Nat.eq_of_beq_eq_true c1
            have c2 := Nat.eq_of_beq_eq_true c2
            subst c1
            subst c2
            have c3 : cs.length = n * z := Nat.eq_of_beq_eq_true c3
            have c4 : n + m ≤ 1000 := Nat.le_of_ble_eq_true c4
            obtain ⟨l, c, hl, h1, h2, rfl⟩ := hu
            obtain ⟨l0, e1, arr, et, e2, e3, e4, e5⟩ := h.live b _ hb
            rw [hl] at e1
            cases e1
            have hxl : xs.length = m * z := by rw [hF.length, hsrc.newsLen]
            by_cases hroom : n + m ≤ c
            · have hfit : n * z + us.length ≤ arr.size := by
                rw [hsrc.newsLen, ← Nat.add_mul]
                have : (n + m) * z ≤ c * z := Nat.mul_le_mul_right _ hroom
                omega
              obtain ⟨arr', g1, g2, g3⟩ := setCells_row l.blk et us (0 + n * z) w arr e2 (by omega)
              obtain ⟨k1, k2⟩ := h.rename (l' := l) (o' := .row (cs ++ xs)) hb (fun e => by cases e) hl rfl hmay (setCells_by l.blk us (0 + n * z) w) ⟨arr', et, g1, by
                  rw [List.length_append, c3, hxl, ← Nat.add_mul]
                  have : (n + m) * z ≤ c * z := Nat.mul_le_mul_right _ hroom
                  omega, by omega, fun i q hi => by
                  rw [g3 i]
                  by_cases ci : i < cs.length
                  · rw [List.getElem?_append_left ci] at hi
                    rw [if_neg (by omega)]
                    exact e5 i q hi
                  · rw [List.getElem?_append_right (by omega)] at hi
                    obtain ⟨q', q1, q2⟩ := hF.get _ _ hi
                    have := (List.getElem?_eq_some_iff.1 q1).1
                    rw [if_pos (by omega)]
                    exact ⟨q', by rw [← q1]; congr 1; omega, q2⟩⟩
              exact ⟨_, _, _, app_room hs hsrc hroom (there_row e2 (by omega)), ⟨l, c, XM.put_self _ _ _, by omega, hroom, rfl⟩, k1, k2, rfl⟩
            · have hr : rdC s b 0 (n * z) = some cs := by
                unfold rdC
                rw [hb]
                simp only [List.drop_zero]
                rw [List.take_of_length_le (by omega), c3]
                simp
              obtain ⟨vs, f1, f2⟩ := h.read hr hl
              have hlen : vs.length = n * z := by rw [← f1.length, c3]
              obtain ⟨st1, st2⟩ := h.strike b hmay (fun e => by rw [hb] at e; cases e)
              obtain ⟨r, w', β, h1, h2, h3, h4⟩ := run_grow (P := P) st1 hs hk (base := some ⟨l.blk, 0, none⟩) (n := n) (cap := c) (olds := vs) f1 (run_firstCells_some w.drew z n _ n c vs hlen fun j q hj => by rw [add_addr]; exact f2 j q hj) hlen hF hsrc (by omega) c4 ty
              exact ⟨r, w', β, h1, h2, h3, st2.trans h4, rfl⟩
          · cases hx3
      · cases hx
end
end Go.Proofs.YtbddollbjajcnaaGreat
