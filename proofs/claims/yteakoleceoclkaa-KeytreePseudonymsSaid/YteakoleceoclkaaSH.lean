/- SX: values built of what calls gave, new rows of zeros, rows of one element. -/
import Derived.Test.YteakoleceoclkaaV6
import Derived.Test.YteakoleceoclkaaSJ
import Derived.Laws.MakeOwn
import Derived.Lib.LazyBuf
namespace Go.Proofs.Yteakoleceoclkaa
open Go.RowKit
set_option linter.unusedSimpArgs false
set_option linter.unusedVariables false
def Sp.made (B : Nat) (e : TypeId) (sz n : Nat) (xs : List Value) : Sp := ⟨fun w v => ∃ A, v = .slice (some ⟨A, 0, none⟩) n n ∧ Own w e sz (.slice (some ⟨A, 0, none⟩) n n) n xs ∧ B ≤ A, fun _ _ _ hg ⟨A, h1, h2, h3⟩ => ⟨A, h1, h2.kn hg, h3⟩⟩
section
variable {P : Program} {ops : Array Oper} {L : Nat → Sp} {n : Nat} {w0 : World} {o : Oper}
theorem made_rep {z : Value} {sz : Nat} (hz : z.cells.size = sz) (hp : 0 < sz) (m : Nat) : (madeCells z.cells (m * sz)).toList = (List.replicate m ()).flatMap fun _ => z.cells.toList := by
 refine List.ext_getElem? fun i => ?_
 have hl : ((List.replicate m ()).flatMap fun _ => z.cells.toList).length = m * sz := by rw [fl_len (sz := sz) (fun _ => by simpa using hz)]; simp
 by_cases hi : i < m * sz
 · have h1 : i / sz < m := (Nat.div_lt_iff_lt_mul hp).2 hi
   have h2 : i % sz < sz := Nat.mod_lt _ hp
   have e1 : (madeCells z.cells (m * sz)).toList[i]? = some z.cells[i % sz]! := by rw [← hz] at hi ⊢; simp [madeCells, hi]
   have e2 : ((List.replicate m ()).flatMap fun _ => z.cells.toList)[i]? = some (z.cells[i % sz]'(by omega)) := by
     have hsp := fl_split (c := fun _ => z.cells.toList) (L := List.replicate m ()) (j := i / sz) (by simpa using h1)
     rw [hsp, List.getElem?_append_right (by rw [fl_len (sz := sz) (fun _ => by simpa using hz), List.length_take, List.length_replicate, Nat.min_eq_left (Nat.le_of_lt h1)]; exact Nat.div_mul_le_self i sz), fl_len (sz := sz) (fun _ => by simpa using hz), List.length_take, List.length_replicate, Nat.min_eq_left (Nat.le_of_lt h1)]
     have e3 : i - i / sz * sz = i % sz := by have := Nat.div_add_mod i sz; rw [Nat.mul_comm] at this; omega
     rw [e3, List.getElem?_append_left (by simpa [hz] using h2), Array.getElem?_toList, Array.getElem?_eq_getElem (by omega)]
   rw [e1, e2, getElem!_pos z.cells _ (by omega)]
 · rw [List.getElem?_eq_none (by simp [madeCells]; omega), List.getElem?_eq_none (by omega)]
theorem ox_make {t e : TypeId} {z : Value} {size bytes d B m : Nat} {x : Operand} {xs : List Value} (E : ET P t e z size bytes) (ho : o.op = .makeSlice t x x) (hd : o.dst = some d) (hg : GX ops L n o.guard) (hB : B ≤ w0.heap.size)
   (hx : OpX L n x (.int .i64 (m : Int))) (hm : m ≤ 1000000) (hxs : xs = (List.replicate m ()).flatMap fun _ => z.cells.toList)
   (h : ∀ w v, (Sp.made B e size m xs).on w v → (L d).on w v) : OX P ops L n w0 o := by
 intro a w hw hl hs
 unfold OpSays
 rw [if_pos (hg.wanted hl hs)]
 have e1 := hx.eval (o := o) (a := a) (w := w) (by simp [ho, Op.operands]) hl
 obtain ⟨i, hi, hz, rfl, hby⟩ := E.inf
 have hb := E.bnd
 have hbytes : (i.bytes : Int) * (m : Int) ≤ 281474976710656 := by
   have h1 : i.bytes * m ≤ 128 * 1000000 := Nat.mul_le_mul (by omega) hm
   have h2 : ((i.bytes * m : Nat) : Int) ≤ ((128 * 1000000 : Nat) : Int) := by omega
   rw [Int.natCast_mul] at h2
   omega
 have hr := run_make (P := P) w t e i z E.und hi hz .i64 .i64 (m : Int) (m : Int) (by omega) (by omega) hbytes (by omega)
 have hrr : (execOp a.eval o).run P w = .ok (.value (.slice (some ⟨w.heap.size, 0, none⟩) m m)) (w.alloc (.cells (madeCells z.cells (m * i.size)) e)) := by
   simp only [execOp, ho, e1, Sem.run_bind, Sem.run_pure, Result.andThen_ok, hr, Int.toNat_natCast]
 rw [hrr]
 refine ⟨World.grownBy_alloc _ _ _, dst_on hd (h _ _ ⟨_, rfl, ?_, Nat.le_trans hB hw.size⟩)⟩
 have hcl : (madeCells z.cells (m * i.size)).size = m * i.size := size_madeCells _ _
 refine ⟨by rw [hxs, ← made_rep E.zsz E.pos, Array.length_toList, hcl], .inr ⟨w.heap.size, m, _, rfl, Nat.zero_le _, heap_at rfl, Nat.le_refl _, by unfold maxLen; omega, hcl, ?_⟩⟩
 rw [hxs, ← made_rep E.zsz E.pos, List.take_of_length_le (by rw [Array.length_toList, hcl]; exact Nat.le_refl _)]
theorem rn_nil {t e : TypeId} (ht : P.underlying t = some (.slice e)) {x y : Operand} {ao : Option Addr} {l c : Nat} {r : Bool} (hr : ao.isNone = r) {w : World} : (do eqGuard .eql t x y (.slice ao l c) (.slice none 0 0); binOp .eql t (.slice ao l c) (.slice none 0 0) : Sem Value).run P w = .ok (.bool r) w := by
 subst hr
 have := run_eql_slice_nil (P := P) w t e ao l c ht
 simp [eqGuard, this]
end
def zkey : VK := ⟨zero32, zero32_dg, none, 0, []⟩
theorem zkeys (m : Nat) : ((List.replicate m ()).flatMap fun _ => zK.cells.toList) = (List.replicate m zkey).flatMap kcells := by
 induction m with
 | zero => rfl
 | succ m ih => rw [List.replicate_succ, List.replicate_succ, List.flatMap_cons, List.flatMap_cons, ih]; rfl
theorem KsR.rep (w : World) (m : Nat) : KsR w (List.replicate m zkey) := fun k hk => by
 obtain ⟨_, rfl⟩ := List.mem_replicate.1 hk
 exact RdT.nil w
theorem fpKs_rep (m b : Nat) : ¬ fpKs (List.replicate m zkey) b := by
 rintro ⟨k, hk, h⟩
 obtain ⟨_, rfl⟩ := List.mem_replicate.1 hk
 simp [fpT, VK.s, zkey, Value.ownBlock] at h
theorem KsR.set {w : World} {ms : List VK} (h : KsR w ms) {x : VK} (hx : RdT w x.s x.l) (i : Nat) : KsR w (ms.set i x) := fun k hk => (List.mem_or_eq_of_mem_set hk).elim (h k) fun e => e ▸ hx
theorem fpKs_set {ms : List VK} {x : VK} {i b : Nat} (h : fpKs (ms.set i x) b) : fpKs ms b ∨ fpT x.s b := by
 obtain ⟨k, hk, hb⟩ := h
 exact (List.mem_or_eq_of_mem_set hk).elim (fun h => .inl ⟨k, h, hb⟩) fun e => .inr (e ▸ hb)
def KsT (w : World) (ms : List VK) : Prop := KsR w ms ∧ ∀ k, fpKs ms k → TagB w k
section
variable {w w' : World} {ms : List VK}
theorem KsT.kn (h : KsT w ms) (g : w.grownBy w' none) : KsT w' ms := ⟨h.1.kn g, fun k hk => (h.2 k hk).keep g (by simp)⟩
theorem KsT.offR (h : KsT w ms) {row : Option Nat} (g : w.grownBy w' row) (hb : ∀ k, fpKs ms k → row ≠ some k) : KsT w' ms := ⟨h.1.offR g hb, fun k hk => (h.2 k hk).keep g (hb k hk)⟩
theorem KsT.lt (h : KsT w ms) : ∀ k, fpKs ms k → k < w.heap.size := h.1.lt
theorem KsT.rep (w : World) (m : Nat) : KsT w (List.replicate m zkey) := ⟨KsR.rep w m, fun k hk => (fpKs_rep m k hk).elim⟩
theorem KsT.set (h : KsT w ms) {x : VK} (hx : RdTg w x.s x.l) (i : Nat) : KsT w (ms.set i x) := ⟨h.1.set hx.1 i, fun k hk => (fpKs_set hk).elim (h.2 k) (hx.2 k)⟩
end
def Sp.ck (B : Nat) (o : List Nat) (l : List Nd) : Sp := ⟨fun w v => ∃ x : VK, v = kval x ∧ x.o = o ∧ x.l = l ∧ RdTg w x.s x.l ∧ ∀ k, fpT x.s k → B ≤ k, fun _ _ _ hg ⟨x, h1, h2, h3, h4, h5⟩ => ⟨x, h1, h2, h3, h4.kn hg, h5⟩⟩
section
variable {ops : Array Oper} {L : Nat → Sp} {n : Nat} {w0 : World} {o : Oper}
theorem ct_of {B : Nat} {l : List Nd} {w : World} {u : Value} (h : (Sp.cl B l).on w u) : ∃ v, (Instr.build 34 #[(0, u)]).run Try.prog w = .ok v w ∧ (Sp.ct B l).on w v := by
 obtain ⟨ao, cap, rfl, h2, h3⟩ := h
 exact ⟨_, bT1s ao _ cap w, ao, cap, rfl, h2, h3⟩
theorem ck_of {B : Nat} {l : List Nd} {x : List Nat} (hx : Dg x) {w : World} {u t : Value} (hu : u = dval x) (h : (Sp.ct B l).on w t) : ∃ v, (Instr.build 65 #[(0, u), (1, t)]).run Try.prog w = .ok v w ∧ (Sp.ck B x l).on w v := by
 obtain ⟨ao, cap, rfl, h2, h3⟩ := h
 subst hu
 exact ⟨_, bK2 (k := ⟨x, hx, ao, cap, l⟩) w, ⟨x, hx, ao, cap, l⟩, rfl, rfl, rfl, h2, h3⟩
end
set_option maxRecDepth 100000 in
theorem bS1k (x : VK) (w : World) : (Instr.buildSlice 56 1 #[(0, kval x)]).run Try.prog w = .ok (.slice (some ⟨w.heap.size, 0, none⟩) 1 1) (w.alloc (.cells (kcells x).toArray 65)) := by
 obtain ⟨o, ho, ao, cap, l⟩ := x
 obtain ⟨x0, x1, x2, x3, x4, x5, x6, x7, x8, x9, x10, x11, x12, x13, x14, x15, x16, x17, x18, x19, x20, x21, x22, x23, x24, x25, x26, x27, x28, x29, x30, x31, rfl⟩ := list32 _ ho.1
 kernel_rfl
theorem cl_step {ks ms : List VK} {i : Nat} {x y : VK} (hl : ms.length = ks.length) (hi : i < ks.length) (hx : ks[i] = x) (ho : y.o = x.o) (hll : y.l = x.l) (h : ∀ j, j < i → (ms.map VK.p)[j]? = (ks.map VK.p)[j]?) : ∀ j, j < i + 1 → ((ms.set i y).map VK.p)[j]? = (ks.map VK.p)[j]? := by
 intro j hj
 rw [List.getElem?_map, List.getElem?_set]
 by_cases e : i = j
 · subst e
   rw [if_pos rfl, if_pos (by omega), List.getElem?_map, List.getElem?_eq_getElem hi, hx]
   simp [VK.p, ho, hll]
 · rw [if_neg e, ← List.getElem?_map]
   exact h j (by omega)
theorem cl_end {ks ms : List VK} {i : Nat} (hl : ms.length = ks.length) (hi : ¬ i < ks.length) (h : ∀ j, j < i → (ms.map VK.p)[j]? = (ks.map VK.p)[j]?) : ms.map VK.p = ks.map VK.p := by
 refine List.ext_getElem? fun j => ?_
 by_cases hj : j < ks.length
 · exact h j (by omega)
 · rw [List.getElem?_eq_none (by simpa [hl] using hj), List.getElem?_eq_none (by simpa using hj)]
end Go.Proofs.Yteakoleceoclkaa
