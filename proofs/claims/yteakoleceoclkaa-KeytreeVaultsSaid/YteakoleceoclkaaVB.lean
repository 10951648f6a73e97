/- SX: reads that may come late, beside stores to other blocks; what the reference's functions of vaults hand back. -/
import Derived.Test.YteakoleceoclkaaVA
import Derived.OrdersHeld
namespace Go.Proofs.Yteakoleceoclkaa
open Go.RowKit
set_option linter.unusedSimpArgs false
set_option linter.unusedVariables false
section
variable {P : Program} {ops : Array Oper} {S : World → Prop} {Kt : Act → Prop} {o : Oper} {r : List Oper} {a : Act} {n : Nat} {D : List Deferred} {K : List (Nat × Value)}
theorem tk_load (sv : Sv n D K a) (hgd : o.guard = none) {T : TypeId} {x : Operand} {d : Nat} {p v : Value} (ho : o.op = .load T x) (hd : o.dst = some d) (hdn : decide (d < n) = true) (hx : okV K x = true ∧ evV K x = p) (hr : ∀ w, S w → (Instr.loadAt T p).run P w = .ok v w)
   (h : ∀ a', Sv n D ((d, v) :: delK d K) a' → wpTake P ops S Kt r a') : wpTake P ops S Kt (o :: r) a :=
 take_load hgd T x ho (sv.ev hx.1 hx.2) hr (by rw [hd]; exact h _ (sv.put (of_decide_eq_true hdn) v))
theorem tk_px (w0 : World) (sv : Sv n D K a) {v : Value} {d : Nat} (hd : o.dst = some d) (hc : (decide (d < n) && !(o.looksAt ops).contains d) = true) (hp : PX P ops (lkS ((d, Sp.is v) :: isL K)) n w0 o)
   (h : ∀ a', Sv n D ((d, v) :: delK d K) a' → wpTake P ops S Kt r a') : wpTake P ops S Kt (o :: r) a := by
 simp only [Bool.and_eq_true, decide_eq_true_eq, Bool.not_eq_true'] at hc
 obtain ⟨u, hy, hu⟩ := hp a w0 (World.grownBy.refl _ _) (fun t ht htn => by
   have hne : (Nat.beq d t) = false := by
     cases e : Nat.beq d t with
     | false => rfl
     | true =>
       have := Nat.eq_of_beq_eq_true e
       subst this
       have h2 := hc.2
       rw [← Bool.not_eq_true, List.contains_iff_mem] at h2
       exact absurd ht h2
   have h1 := (sv.st w0).2.2.at t
   unfold lkS
   rw [hne]
   exact h1) sv.1
 have e : u = v := by
   have := hu d hd
   unfold lkS at this
   have hb : Nat.beq d d = true := Nat.beq_refl d
   rw [hb] at this
   exact this
 subst e
 exact ⟨_, hy.yieldsIf, by rw [hd]; exact h _ (sv.put hc.1 _)⟩
end
def TagD (w : World) (s v : Value) : Prop := v = s ∨ Tag w v
def RdTT (w : World) (s v : Value) (l : List Nd) : Prop := RdT w v l ∧ TagD w s v
section
variable {w w' : World} {s v : Value} {l : List Nd}
theorem RdTT.kn (h : RdTT w s v l) (g : w.grownBy w' none) : RdTT w' s v l := ⟨h.1.kn g, h.2.imp id (·.kn g)⟩
theorem RdTT.offR (h : RdTT w s v l) {row : Option Nat} (g : w.grownBy w' row) (hb : ∀ k, fpT v k → row ≠ some k) : RdTT w' s v l := ⟨h.1.offR g hb, h.2.imp id (·.offR g hb)⟩
theorem RdTT.lt (h : RdTT w s v l) : ∀ k, fpT v k → k < w.heap.size := h.1.lt
theorem TagD.fp (h : TagD w s v) {k : Nat} (hk : fpT v k) : fpT s k ∨ TagB w k := h.elim (fun e => .inl (e ▸ hk)) fun t => .inr (t k hk)
end
def Sp.puncR (s : Value) (r : List Nd × Int) : Sp := ⟨fun w v => ∃ ao cap, v = .tuple #[.agg #[.slice ao r.1.length cap], .int .i64 r.2] ∧ RdTT w s (.slice ao r.1.length cap) r.1, fun _ _ _ hg ⟨ao, cap, h1, h2⟩ => ⟨ao, cap, h1, h2.kn hg⟩⟩
def Sp.ctR (s : Value) (l : List Nd) : Sp := ⟨fun w v => ∃ ao cap, v = .agg #[.slice ao l.length cap] ∧ RdTT w s (.slice ao l.length cap) l, fun _ _ _ hg ⟨ao, cap, h1, h2⟩ => ⟨ao, cap, h1, h2.kn hg⟩⟩
theorem puncR_tree {s : Value} {r : List Nd × Int} (w : World) (u : Value) (h : (Sp.puncR s r).on w u) : ∃ vs v, u = .tuple vs ∧ vs[0]? = some v ∧ (Sp.ctR s r.1).on w v := by
 obtain ⟨ao, cap, h1, h2⟩ := h
 exact ⟨_, _, h1, rfl, ao, cap, rfl, h2⟩
theorem puncR_err {s : Value} {r : List Nd × Int} (w : World) (u : Value) (h : (Sp.puncR s r).on w u) : ∃ vs v, u = .tuple vs ∧ vs[1]? = some v ∧ (Sp.is (.int .i64 r.2)).on w v := by
 obtain ⟨ao, cap, h1, h2⟩ := h
 exact ⟨_, _, h1, rfl, rfl⟩
theorem rpunct_onR {w0 : World} {s : Value} {l : List Nd} {a : Int} {r : List Nd × Int} (hr : punOf l a = r) (h : RdT w0 s l) : ∀ W, w0.grownBy W none → Calls Try.prog 25 #[.agg #[s], .int .i64 a] W fun e W' => ∃ v, e = .returned v ∧ W.grownBy W' none ∧ (Sp.puncR s r).on W' v := fun W g => by
 subst hr
 have h2 := h.2.1
 obtain ⟨L, rfl, hL⟩ := (h.kn g).k
 refine (rpunct_walk L s a W hL).mono fun e W' ⟨v, h1, h3, h4, h5, h6⟩ => ?_
 obtain ⟨ao, cap, rfl, _⟩ := h3.shape
 exact ⟨_, h1, h5, ao, cap, rfl, ⟨h3, punOf_ok h2 a, h4, by have := punOf_len (l := L.map (·.1)) a; omega⟩, h6.imp id fun t k hk => t k hk.1⟩
/-! parts of a slice of keys -/
theorem sl_take {w : World} {ao : Option Addr} {cap : Nat} {ks : List VK} (h : Sl w 33 (.slice ao ks.length cap) ks.length (ks.flatMap kcells)) {i : Nat} (hi : i ≤ ks.length) :
   ∃ ao' cap', (∀ w', (Instr.sliceAt 56 (.slice ao ks.length cap) none (some (.int .i64 (i : Int))) none).run Try.prog w' = .ok (.slice ao' i cap') w') ∧ Sl w 33 (.slice ao' i cap') i ((ks.take i).flatMap kcells) ∧ ∀ b, fpS (.slice ao' i cap') b → fpS (.slice ao ks.length cap) b := by
 obtain ⟨ao', cap', h1, h2, h3⟩ := run_slice_sl (P := Try.prog) Try.underlying56 (by kernel_rfl) h 0 i none (some (.int .i64 (i : Int))) (.inr ⟨rfl, rfl⟩) (.inl rfl) (Nat.zero_le _) hi
 refine ⟨ao', cap', h1, ?_, h3⟩
 have e : ((ks.flatMap kcells).drop (0 * 33)).take ((i - 0) * 33) = (ks.take i).flatMap kcells := by
   have e2 : ks.flatMap kcells = (ks.take i).flatMap kcells ++ (ks.drop i).flatMap kcells := by rw [← List.flatMap_append, List.take_append_drop]
   rw [Nat.zero_mul, List.drop_zero, e2, List.take_left' (by rw [kcellsL, List.length_take, Nat.min_eq_left hi]; rfl)]
 rw [e] at h2
 exact h2
theorem sl_drop {w : World} {ao : Option Addr} {cap : Nat} {ks : List VK} (h : Sl w 33 (.slice ao ks.length cap) ks.length (ks.flatMap kcells)) {i : Nat} (hi : i ≤ ks.length) :
   ∃ ao' cap', (∀ w', (Instr.sliceAt 56 (.slice ao ks.length cap) (some (.int .i64 (i : Int))) none none).run Try.prog w' = .ok (.slice ao' (ks.length - i) cap') w') ∧ Sl w 33 (.slice ao' (ks.length - i) cap') (ks.length - i) ((ks.drop i).flatMap kcells) ∧ ∀ b, fpS (.slice ao' (ks.length - i) cap') b → fpS (.slice ao ks.length cap) b := by
 obtain ⟨ao', cap', h1, h2, h3⟩ := run_slice_sl (P := Try.prog) Try.underlying56 (by kernel_rfl) h i ks.length (some (.int .i64 (i : Int))) none (.inl rfl) (.inr ⟨rfl, rfl⟩) hi (Nat.le_refl _)
 refine ⟨ao', cap', h1, ?_, h3⟩
 have e : ((ks.flatMap kcells).drop (i * 33)).take ((ks.length - i) * 33) = (ks.drop i).flatMap kcells := by
   have e2 : ks.flatMap kcells = (ks.take i).flatMap kcells ++ (ks.drop i).flatMap kcells := by rw [← List.flatMap_append, List.take_append_drop]
   rw [e2, List.drop_left' (by rw [kcellsL, List.length_take, Nat.min_eq_left hi]), List.take_of_length_le (by rw [kcellsL, List.length_drop]; exact Nat.le_refl _)]
 rw [e] at h2
 exact h2
end Go.Proofs.Yteakoleceoclkaa
