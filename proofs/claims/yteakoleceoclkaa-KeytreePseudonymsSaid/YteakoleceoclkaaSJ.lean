/- SX: rows of one element, trees told apart by the types of their blocks. -/
import Derived.Test.YteakoleceoclkaaSF
namespace Go.Proofs.Yteakoleceoclkaa
open Go.RowKit
set_option linter.unusedSimpArgs false
set_option linter.unusedVariables false
def Sp.lit1 (B : Nat) (e : TypeId) (cs : List Value) : Sp := ⟨fun w v => ∃ A, v = .slice (some ⟨A, 0, none⟩) 1 1 ∧ B ≤ A ∧ w.heap[A]? = some (.cells cs.toArray e (0, 0)), fun _ _ _ hg ⟨A, h1, h2, h3⟩ => ⟨A, h1, h2, row_of hg h3 (by simp)⟩⟩
section
variable {P : Program} {ops : Array Oper} {L : Nat → Sp} {n : Nat} {w0 : World} {o : Oper}
theorem ox_buildY {T : TypeId} {parts : Array (Nat × Operand)} {d : Nat} (ho : o.op = .build T parts) (hd : o.dst = some d) (hg : GX ops L n o.guard)
   (hn : ((parts.toList.map (·.2)).all fun x => match x with | .tmp t => decide (t < n) | .const _ => true | _ => false) = true)
   (hc : ∀ w, w0.grownBy w none → ∀ av, ArgsOn L w (parts.toList.map (·.2)) av → ∃ v, (Instr.build T ((parts.toList.map (·.1)).zip av).toArray).run P w = .ok v w ∧ (L d).on w v) : OX P ops L n w0 o :=
 ox_run hg fun a w hw hl hsz => by
   have hon := ArgsOn.of (o := o) (ops := ops) (a := a) (w := w) hl hn (fun x hx => by simp only [ho, Op.operands]; simpa using hx)
   obtain ⟨v, hr, hv⟩ := hc w hw _ hon
   refine ⟨v, ?_, dst_on hd hv⟩
   have e2 : (parts.map fun (i, x) => (i, a.eval x)) = ((parts.toList.map (·.1)).zip ((parts.toList.map (·.2)).map a.eval)).toArray := by
     apply Array.ext'
     simp only [Array.toList_map, List.map_map]
     induction parts.toList with
     | nil => rfl
     | cons p l ih => simp only [List.map_cons, List.zip_cons_cons, ih]; rfl
   simp only [execOp, ho, e2, Sem.run_bind, Sem.run_pure, Result.andThen_ok, hr]
theorem ox_lit1 {t e : TypeId} {x : Operand} {d B : Nat} (ho : o.op = .buildSlice t 1 #[(0, x)]) (hd : o.dst = some d) (hg : GX ops L n o.guard) (hB : B ≤ w0.heap.size)
   (hn : ([x].all fun x => match x with | .tmp t => decide (t < n) | .const _ => true | _ => false) = true)
   (hc : ∀ w, w0.grownBy w none → ∀ v, ArgsOn L w [x] [v] → ∃ cs : List Value, (Instr.buildSlice t 1 #[(0, v)]).run P w = .ok (.slice (some ⟨w.heap.size, 0, none⟩) 1 1) (w.alloc (.cells cs.toArray e)) ∧
     ∀ w', w.grownBy w' none → w'.heap[w.heap.size]? = some (.cells cs.toArray e (0, 0)) → (L d).on w' (.slice (some ⟨w.heap.size, 0, none⟩) 1 1)) : OX P ops L n w0 o := by
 intro a w hw hl hs
 unfold OpSays
 rw [if_pos (hg.wanted hl hs)]
 have hon := ArgsOn.of (o := o) (ops := ops) (a := a) (w := w) hl (l := [x]) hn (fun y hy => by simp at hy; subst hy; simp [ho, Op.operands])
 obtain ⟨cs, hr, hv⟩ := hc w hw _ hon
 have hrr : (execOp a.eval o).run P w = .ok (.value (.slice (some ⟨w.heap.size, 0, none⟩) 1 1)) (w.alloc (.cells cs.toArray e)) := by
   simp only [execOp, ho, List.map_toArray, List.map_cons, List.map_nil, Sem.run_bind, Sem.run_pure, Result.andThen_ok, hr]
 rw [hrr]
 exact ⟨World.grownBy_alloc _ _ _, dst_on hd (hv _ (World.grownBy_alloc _ _ _) (heap_at rfl))⟩
end
theorem RdT.nil (w : World) : RdT w (.slice none 0 0) [] := ⟨Sl.nil w 34, by simp, fun k hk => (fpT_nil k hk).elim, by simp⟩
def TagB (w : World) (k : Nat) : Prop := ∃ c fr, w.heap[k]? = some (.cells c 91 fr)
def Tag (w : World) (v : Value) : Prop := ∀ k, fpT v k → TagB w k
theorem tag_ne {w : World} {k b : Nat} {c : Array Value} {T : TypeId} {fr : Nat × Nat} (h : TagB w k) (hb : w.heap[b]? = some (.cells c T fr)) (hT : T ≠ 91) : k ≠ b := by
 rintro rfl
 obtain ⟨c', fr', h1⟩ := h
 rw [hb] at h1
 simp only [Option.some.injEq, Obj.cells.injEq] at h1
 exact hT h1.2.1
theorem TagB.keep {w w' : World} {k : Nat} (h : TagB w k) {row : Option Nat} (g : w.grownBy w' row) (hb : row ≠ some k) : TagB w' k := by
 obtain ⟨c, fr, h1⟩ := h
 exact ⟨c, fr, row_of g h1 fun e => hb e.symm⟩
theorem Tag.kn {w w' : World} {v : Value} (h : Tag w v) (g : w.grownBy w' none) : Tag w' v := fun k hk => (h k hk).keep g (by simp)
theorem Tag.offR {w w' : World} {v : Value} (h : Tag w v) {row : Option Nat} (g : w.grownBy w' row) (hb : ∀ k, fpT v k → row ≠ some k) : Tag w' v := fun k hk => (h k hk).keep g (hb k hk)
theorem Tag.ap {w : World} {v : Value} (h : Tag w v) {b : Nat} {c : Array Value} {T : TypeId} {fr : Nat × Nat} (hb : w.heap[b]? = some (.cells c T fr)) (hT : T ≠ 91) : ∀ k, fpT v k → k ≠ b := fun k hk => tag_ne (h k hk) hb hT
theorem Tag.own {w : World} {v u : Value} (h : Tag w v) {e : TypeId} {sz n : Nat} {xs : List Value} (ho : Own w e sz u n xs) (he : e ≠ 91) : ∀ k, fpT v k → ¬ fpS u k := fun k hk hu => by
 obtain ⟨c, fr, h1⟩ := Own.block ho hu
 exact h.ap h1 he k hk rfl
theorem Tag.of {w : World} {v : Value} {sz n : Nat} {xs : List Value} (ho : Own w 91 sz v n xs) : Tag w v := fun k hk => Own.block ho hk.1
def RdTg (w : World) (s : Value) (l : List Nd) : Prop := RdT w s l ∧ Tag w s
section
variable {w w' : World} {s : Value} {l : List Nd}
theorem RdTg.kn (h : RdTg w s l) (g : w.grownBy w' none) : RdTg w' s l := ⟨h.1.kn g, h.2.kn g⟩
theorem RdTg.offR (h : RdTg w s l) {row : Option Nat} (g : w.grownBy w' row) (hb : ∀ k, fpT s k → row ≠ some k) : RdTg w' s l := ⟨h.1.offR g hb, h.2.offR g hb⟩
theorem RdTg.lt (h : RdTg w s l) : ∀ k, fpT s k → k < w.heap.size := h.1.lt
end
def Sp.cl (B : Nat) (l : List Nd) : Sp := ⟨fun w v => ∃ ao cap, v = .slice ao l.length cap ∧ RdTg w (.slice ao l.length cap) l ∧ ∀ k, fpT (.slice ao l.length cap) k → B ≤ k, fun _ _ _ hg ⟨ao, cap, h1, h2, h3⟩ => ⟨ao, cap, h1, h2.kn hg, h3⟩⟩
def Sp.ct (B : Nat) (l : List Nd) : Sp := ⟨fun w v => ∃ ao cap, v = .agg #[.slice ao l.length cap] ∧ RdTg w (.slice ao l.length cap) l ∧ ∀ k, fpT (.slice ao l.length cap) k → B ≤ k, fun _ _ _ hg ⟨ao, cap, h1, h2, h3⟩ => ⟨ao, cap, h1, h2.kn hg, h3⟩⟩
theorem newt_on {w0 : World} {k : List Nat} {T : List Nd} (hk : Dg k) (hT : tree k [] = T) : ∀ W, w0.grownBy W none → Calls Try.prog 21 #[dval k] W fun e W' => ∃ v, e = .returned v ∧ W.grownBy W' none ∧ (Sp.ct w0.heap.size T).on W' v := fun W g =>
 (new_walk k hk W).mono fun e W' ⟨s, he, ho, hf⟩ => by
   have htag : Tag W' s := Tag.of ho
   obtain ⟨ao, cap, rfl, h1, h2⟩ := NewC hk ho hf
   have h3 : (1 : Nat) = T.length := by rw [← hT, tree_nil]; rfl
   subst hT
   rw [h3] at h1 he hf htag
   exact ⟨_, he, h2, ao, cap, rfl, ⟨h1, htag⟩, fun k hk => Nat.le_trans g.size ((hf.2 k hk.1).elim (fun h => by simp [Value.ownBlock] at h) id)⟩
end Go.Proofs.Yteakoleceoclkaa
