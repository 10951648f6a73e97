/- A region of facts, with the frame written out behind it. -/
import Derived.Test.YtkeiffccllfkpaaLin2
namespace Go.Proofs.Ytkeiffccllfkpaa
open Go.RowKit

theorem ob_neS {P : Program} {ops : Array Oper} {L : List Sp} {n : Nat} {w0 : World} {o : Oper} {ty ty2 : TypeId} {x y : Operand} {a b : ByteArray} {d : Nat} (ho : o.op = .binOp .neq ty x y ty2) (hd : o.dst = some d) (hg : GOK ops L n o.guard) (hx : OpdIs L n x (.string a)) (hy : OpdIs L n y (.string b)) (hab : a = b) (hv : ∀ w, At L d w (.bool false)) : Ob P ops L n w0 o :=
  ob_bin ho hd hg hx hy (fun w => by subst hab; simp [eqGuard, binOp, Op.stringOp]) hv
def Sp.and (a b : Sp) : Sp := ⟨fun w v => a.on w v ∧ b.on w v, fun w w' v hg h => ⟨a.mono w w' v hg h.1, b.mono w w' v hg h.2⟩⟩
def keepL (L : List Sp) (l0 : List Value) (m : List Bool) : List Sp := (List.range L.length).map fun t => if m.getD t false then L.getD t Sp.any else Sp.and (L.getD t Sp.any) (Sp.is (l0.getD t undef))
theorem keepL_len (L : List Sp) (l0 : List Value) (m : List Bool) : (keepL L l0 m).length = L.length := by simp [keepL]
theorem keepL_at (L : List Sp) (l0 : List Value) (m : List Bool) {t : Nat} (ht : t < L.length) (w : World) (v : Value) : At (keepL L l0 m) t w v ↔ At L t w v ∧ (m.getD t false = false → v = l0.getD t undef) := by
  unfold At keepL
  rw [List.getD_eq_getElem?_getD, List.getElem?_map, List.getElem?_range ht, Option.map_some, Option.getD_some]
  cases hm : m.getD t false with
  | true => simp
  | false => simp only [Bool.false_eq_true, if_false, forall_const]; exact Iff.rfl

theorem region_listF {P : Program} {Q : Exit → Act → World → Prop} {id : Nat} {ops : List Oper} {l0 : List Value} {ds : List Deferred} {w0 : World} (hm : P.follows .mixedOrders = true) (L : List Sp) (m : List Bool)
    (hB : regB ops.toArray L.length = true) (hm2 : dstsB ops L.length = m) (hn : l0.length = L.length)
    (h0 : InitP w0 L l0 m) (ob : ObAll P ops.toArray L L.length w0 ops)
    (hQ : ∀ (x : Nat → Value) w, w0.grownBy w none → (∀ t, t < L.length → At L t w (if m.getD t false then x t else l0.getD t undef)) → Q .normal ⟨(frameOf x 0 l0 m).toArray, ds⟩ w) :
    (Code.region id ops.toArray true).wp P Q ⟨l0.toArray, ds⟩ w0 := by
  have hml : m.length = L.length := by rw [← hm2]; simp [dstsB]
  refine region_rel hm L.length (keepL L l0 m) (by simpa using hn) hB ?_ (fun i o hi => ?_) (fun a w hg hd has hk => ?_)
  · intro t ht hnd
    have hmt : m.getD t false = false := by
      cases hmt : m.getD t false with
      | false => rfl
      | true =>
        exfalso
        rw [← hm2] at hmt
        simp only [dstsB, List.getD_eq_getElem?_getD, List.getElem?_map, List.getElem?_range ht, Option.map_some, Option.getD_some, List.any_eq_true, beq_iff_eq] at hmt
        obtain ⟨o, ho, hd⟩ := hmt
        obtain ⟨i, hi, rfl⟩ := List.getElem_of_mem ho
        exact hnd i ops[i] (by simp) hd
    rw [keepL_at L l0 m ht]
    have e : (⟨l0.toArray, ds⟩ : Act).tmps.getD t undef = l0.getD t undef := by simp [List.getD_eq_getElem?_getD]
    rw [e]
    refine ⟨?_, fun _ => rfl⟩
    rcases h0.at t ht (by omega) (by omega) with h | h
    · rw [hmt] at h; cases h
    · exact h
  · have hob := ob.at i o (by simpa using hi)
    intro a w hw hl hsz
    have h1 := hob a w hw (fun t ht htn => ((keepL_at L l0 m htn w _).1 (hl t ht htn)).1) hsz
    have hdst : ∀ d, o.dst = some d → d < L.length ∧ m.getD d false = true := by
      intro d hd
      have hdn := ((regB_spec hB hi).2.1 d hd)
      refine ⟨hdn, ?_⟩
      rw [← hm2]
      simp only [dstsB, List.getD_eq_getElem?_getD, List.getElem?_map, List.getElem?_range hdn, Option.map_some, Option.getD_some, List.any_eq_true, beq_iff_eq]
      exact ⟨o, List.mem_of_getElem? (by simpa using hi), hd⟩
    have conv : ∀ v w', (w.grownBy w' none ∧ ∀ d, o.dst = some d → At L d w' v) → (w.grownBy w' none ∧ ∀ d, o.dst = some d → At (keepL L l0 m) d w' v) := fun v w' h =>
      ⟨h.1, fun d hd => (keepL_at L l0 m (hdst d hd).1 w' v).2 ⟨h.2 d hd, fun hf => by rw [(hdst d hd).2] at hf; cases hf⟩⟩
    unfold OpSays at h1 ⊢
    split
    · rename_i hwt
      rw [if_pos hwt] at h1
      generalize (execOp a.eval o).run P w = r at *
      cases r with
      | ok nx w' =>
        cases nx <;> simp only at h1 ⊢
        all_goals first
          | exact h1.elim
          | exact conv _ _ h1
          | exact h1.mono fun e w'' ⟨v, he, hr⟩ => ⟨v, he, conv _ _ hr⟩
      | halt x w' => exact h1.elim
    · rename_i hwt
      rw [if_neg hwt] at h1
      exact conv _ _ h1
  · have hk' : ∀ t, t < L.length → At L t w (a.tmps.getD t undef) ∧ (m.getD t false = false → a.tmps.getD t undef = l0.getD t undef) := fun t ht => (keepL_at L l0 m ht w _).1 (hk t ht)
    have hget : ∀ t, t < L.length → a.tmps.getD t undef = if m.getD t false then a.tmps.getD t undef else l0.getD t undef := by
      intro t ht
      split
      · rfl
      · rename_i hmt; exact (hk' t ht).2 (by simpa using hmt)
    have e : a = ⟨(frameOf (fun t => a.tmps.getD t undef) 0 l0 m).toArray, ds⟩ := by
      obtain ⟨tm, df⟩ := a
      simp only at hd has hget ⊢
      subst hd
      congr 1
      apply Array.ext'
      refine List.ext_getElem (by rw [frameOf_len _ _ _ _ (by omega), hn]; simpa using has) fun t h1 h2 => ?_
      have h1' : t < tm.size := by simpa using h1
      have ht : t < L.length := by omega
      have h3 := frameOf_get (fun t => tm.getD t undef) 0 l0 m (by omega) t (by omega)
      rw [Nat.zero_add] at h3
      have h4 := (hget t ht).trans h3.symm
      rw [Array.getD_eq_getD_getElem?, Array.getElem?_eq_getElem h1', List.getD_eq_getElem?_getD, List.getElem?_eq_getElem (by simpa using h2)] at h4
      simpa using h4
    rw [e]
    refine hQ _ w hg fun t ht => ?_
    have h5 := (hk' t ht).1
    rw [hget t ht] at h5
    exact h5
end Go.Proofs.Ytkeiffccllfkpaa
