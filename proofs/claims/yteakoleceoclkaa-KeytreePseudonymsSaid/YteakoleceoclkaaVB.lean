/- SX: reads that may come late, beside stores to other blocks; what the reference's functions of vaults hand back. -/
import Derived.Test.YteakoleceoclkaaVA
import Derived.OrdersHeld
namespace Go.Proofs.Yteakoleceoclkaa
open Go.RowKit
set_option linter.unusedSimpArgs false
set_option linter.unusedVariables false
section
variable {P : Program} {ops : Array Oper} {S : World → Prop} {Kt : Act → Prop} {o : Oper} {r : List Oper} {a : Act} {n : Nat} {D : List Deferred} {K : List (Nat × Value)}
theorem tk_load (sv : Sv n D K a) (hgd : o.guard = none) {T : TypeId} {x : Operand} {d : Nat} {p v : Value} (ho : o.op = .load T x) (hd : o.dst = some d) (hdn : decide (d < n) = true) (hx : okV K x = true ∧ evV K x = p) (hr : ∀ w, S w → (Instr.loadAt T p).run P w = .ok v w)
   (h : ∀ a', Sv n D ((d, v) :: delK d K) a' → wpTake P ops S Kt r a') : wpTake P ops S Kt (o :: r) a :=
 take_load hgd T x ho (sv.ev hx.1 hx.2) hr (by rw [hd]; exact h _ (sv.put (of_decide_eq_true hdn) v))
theorem tk_px (w0 : World) (sv : Sv n D K a) {v : Value} {d : Nat} (hd : o.dst = some d) (hc : (decide (d < n) && !(o.looksAt ops).contains d) = true) (hp : PX P ops (lkS ((d, Sp.is v) :: isL K)) n w0 o)
   (h : ∀ a', Sv n D ((d, v) :: delK d K) a' → wpTake P ops S Kt r a') : wpTake P ops S Kt (o :: r) a := by
 simp only [Bool.and_eq_true, decide_eq_true_eq, Bool.not_eq_true'] at hc
 obtain ⟨u, hy, hu⟩ := hp a w0 (World.grownBy.refl _ _) (fun t ht htn => by
   have hne : (Nat.beq d t) = false := by
     cases e : Nat.beq d t with
     | false => rfl
     | true =>
       have := Nat.eq_of_beq_eq_true e
       subst this
       have h2 := hc.2
       rw [← Bool.not_eq_true, List.contains_iff_mem] at h2
       exact absurd ht h2
   have h1 := (sv.st w0).2.2.at t
   unfold lkS
   rw [hne]
   exact h1) sv.1
 have e : u = v := by
   have := hu d hd
   unfold lkS at this
   have hb : Nat.beq d d = true := Nat.beq_refl d
   rw [hb] at this
   exact this
 subst e
 exact ⟨_, hy.yieldsIf, by rw [hd]; exact h _ (sv.put hc.1 _)⟩
end
def TagD (w : World) (s v : Value) : Prop := v = s ∨ Tag w v
def RdTT (w : World) (s v : Value) (l : List Nd) : Prop := RdT w v l ∧ TagD w s v
section
variable {w w' : World} {s v : Value} {l : List Nd}
theorem RdTT.kn (h : RdTT w s v l) (g : w.grownBy w' none) : RdTT w' s v l := ⟨h.1.kn g, h.2.imp id (·.kn g)⟩
theorem RdTT.offR (h : RdTT w s v l) {row : Option Nat} (g : w.grownBy w' row) (hb : ∀ k, fpT v k → row ≠ some k) : RdTT w' s v l := ⟨h.1.offR g hb, h.2.imp id (·.offR g hb)⟩
theorem RdTT.lt (h : RdTT w s v l) : ∀ k, fpT v k → k < w.heap.size := h.1.lt
theorem TagD.fp (h : TagD w s v) {k : Nat} (hk : fpT v k) : fpT s k ∨ TagB w k := h.elim (fun e => .inl (e ▸ hk)) fun t => .inr (t k hk)
end
/-! parts of a slice of keys -/
end Go.Proofs.Yteakoleceoclkaa
