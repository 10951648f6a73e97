/- SX: rows that a function owns: appends, stores to elements. -/
import Derived.Test.YteakoleceoclkaaSX
namespace Go.Proofs.Yteakoleceoclkaa
open Go.RowKit
set_option linter.unusedSimpArgs false
set_option linter.unusedVariables false
theorem setRow_same {w : World} {A : Nat} {c : Array Value} {e : TypeId} {fr : Nat × Nat} (h : w.heap[A]? = some (.cells c e fr)) : w.setRow A c = w := by
 have : (w.setRow A c).heap = w.heap := by
   refine Array.ext_getElem? fun i => ?_
   unfold World.setRow
   simp only
   rw [Array.getElem?_modify]
   split
   · rename_i hi; subst hi; rw [h]; rfl
   · rfl
 cases w
 unfold World.setRow at this ⊢
 simp only at this ⊢
 rw [this]
theorem run_app0 {P : Program} {t e : TypeId} {z : Value} {size bytes : Nat} (E : ET P t e z size bytes) (ty : TypeId) {w : World} {A : Nat} (hA : w.heap[A]? = some (.cells #[] e (0, 0)))
   {sv : Value} {m : Nat} {news : List Value} (hs : Sl w size sv m news) (h1 : news.all Value.oneCell' = true) (h63 : m ≤ 1099511627776) :
   ∃ v' w', (Builtin.append_ #[t, t] ty #[.slice (some ⟨A, 0, none⟩) 0 0, sv]).run P w = .ok v' w' ∧ Own w' e size v' m news ∧ w.grownBy w' none ∧ ∀ k, v'.ownBlock = some k → k = A ∨ w.heap.size ≤ k := by
 have hown : Own w e size (.slice (some ⟨A, 0, none⟩) 0 0) 0 [] := ⟨by simp, .inr ⟨A, 0, #[], rfl, Nat.zero_le _, hA, Nat.le_refl _, Nat.zero_le _, by simp, by simp⟩⟩
 obtain ⟨i, hi, hz, rfl, hby⟩ := E.inf
 have hb := E.bnd
 by_cases hm : m = 0
 · subst hm
   obtain ⟨hl, ao, cap, rfl, hm1, hm2, h3, h4⟩ := hs
   obtain rfl : news = [] := List.eq_nil_of_length_eq_zero (by simpa using hl)
   cases ao with
   | none =>
     obtain rfl := h3 rfl
     exact ⟨_, w, run_append_owned_none (P := P) w 0 t ty e i i.size E.und hi _ 0 [] hown, hown, World.grownBy.refl _ _, fun k hk => .inl (by simp [Value.ownBlock] at hk; exact hk.symm)⟩
   | some ad =>
     have hr2 := run_append_room (P := P) w t ty e i E.und hi A 0 0 #[] hA ad 0 cap [] hl (fun j u hj => by simp at hj) (fun u hu => by cases hu) (Nat.le_refl _) (by simp)
     refine ⟨_, _, hr2, ?_, ?_, fun k hk => .inl (by simp [Value.ownBlock] at hk; exact hk.symm)⟩
     · simpa [setRow_same hA] using hown
     · simpa [setRow_same hA] using World.grownBy.refl w none
 · have hsl := hs
   obtain ⟨hl, ao, cap, rfl, hm1, hm2, h3, h4⟩ := hs
   cases ao with
   | none => have := h3 rfl; omega
   | some ad =>
     have hc' := hsl.rd
     have h1' := List.all_eq_true.1 h1
     have hbytes : (0 + m) * bytes ≤ 140737488355328 := by
       have : (0 + m) * bytes ≤ 1099511627776 * 128 := Nat.mul_le_mul (by omega) hb
       omega
     obtain ⟨v', w', hr, h2, h3', _⟩ := run_append_own (P := P) w 0 t ty e i z i.size bytes E.und hi hz rfl hby E.zsz E.pos _ 0 [] hown ad m cap news hl hc' h1' (by unfold maxLen; omega) hbytes (Nat.zero_le _)
     have hr2 := run_append_grow (P := P) w t ty e i z E.und hi hz ⟨A, 0, none⟩ 0 0 [] (by simp) (fun j u hj => by simp at hj) ad m cap news hl hc' (by omega) (by omega) (growslice_fits (by omega) (by subst hby; exact hbytes))
     rw [hr2] at hr
     simp only [Result.ok.injEq] at hr
     obtain ⟨rfl, rfl⟩ := hr
     refine ⟨_, _, hr2, by simpa using h2, grown_trans (grown_drew w) (World.grownBy_alloc _ _ _), fun k hk => .inr ?_⟩
     simp [Value.ownBlock] at hk
     omega
def Sp.row (B : Nat) (e : TypeId) (sz n : Nat) (xs : List Value) : Sp := ⟨fun w v => ∃ ao cap, v = .slice ao n cap ∧ Own w e sz (.slice ao n cap) n xs ∧ ∀ k, (Value.slice ao n cap).ownBlock = some k → B ≤ k, fun _ _ _ hg ⟨ao, cap, h1, h2, h3⟩ => ⟨ao, cap, h1, h2.kn hg, h3⟩⟩
def Sp.lit0 (B : Nat) (e : TypeId) : Sp := ⟨fun w v => ∃ A, v = .slice (some ⟨A, 0, none⟩) 0 0 ∧ B ≤ A ∧ w.heap[A]? = some (.cells #[] e (0, 0)), fun _ _ _ hg ⟨A, h1, h2, h3⟩ => ⟨A, h1, h2, row_of hg h3 (by simp)⟩⟩
section
variable {P : Program} {ops : Array Oper} {L : Nat → Sp} {n : Nat} {w0 : World} {o : Oper}
theorem ox_lit0 {t e : TypeId} {d B : Nat} (hd : o.dst = some d) (hg : GX ops L n o.guard) (hB : B ≤ w0.heap.size)
   (hrun : ∀ (a : Act) w, (execOp a.eval o).run P w = .ok (.value (.slice (some ⟨w.heap.size, 0, none⟩) 0 0)) (w.alloc (.cells #[] e))) (h : ∀ w v, (Sp.lit0 B e).on w v → (L d).on w v) : OX P ops L n w0 o := by
 intro a w hw hl hs
 unfold OpSays
 rw [if_pos (hg.wanted hl hs), hrun a w]
 exact ⟨World.grownBy_alloc _ _ _, dst_on hd (h _ _ ⟨_, rfl, Nat.le_trans hB hw.size, heap_at rfl⟩)⟩
theorem ox_app0 {t e : TypeId} {z : Value} {size bytes s d B m : Nat} {x : Operand} {xv : Value} {news : List Value} (E : ET P t e z size bytes) (ho : o.op = .call { callee := .builtin .append, args := #[.tmp s, x], argTypes := #[t, t] }) (hd : o.dst = some d) (hg : GX ops L n o.guard)
   (hs : decide (s < n) = true) (hsl : ∀ w u, (L s).on w u → (Sp.lit0 B e).on w u) (hx : OpX L n x xv) (hr : ∀ w, w0.grownBy w none → Sl w size xv m news) (h1 : news.all Value.oneCell' = true) (h63 : m ≤ 1099511627776) (hB : B ≤ w0.heap.size)
   (h : ∀ w v, (Sp.row B e size m news).on w v → (L d).on w v) : OX P ops L n w0 o := by
 intro a w hw hl hsz
 unfold OpSays
 rw [if_pos (hg.wanted hl hsz)]
 obtain ⟨A, e0, hBA, hA⟩ := hsl w _ (hl s (by simp [Oper.looksAt, ho, Op.operands, Call.operands]) (of_decide_eq_true hs))
 have e1 := hx.eval (o := o) (by simp [ho, Op.operands, Call.operands]) hl
 obtain ⟨v', w', hrun, own, g, fr⟩ := run_app0 E o.type hA (hr w hw) h1 h63
 have e2 : a.eval (.tmp s) = .slice (some ⟨A, 0, none⟩) 0 0 := e0
 have hrr : (execOp a.eval o).run P w = .ok (.value v') w' := by
   simp only [execOp, ho, resolve, invoke, builtin, Sem.run_bind, Sem.run_pure, Result.andThen_ok, List.map_toArray, List.map_cons, List.map_nil, e1, e2, hrun]
 rw [hrr]
 refine ⟨g, dst_on hd (h _ _ ?_)⟩
 obtain ⟨ao, cap, rfl, _⟩ := (Sl.of_own own).shape
 exact ⟨ao, cap, rfl, own, fun k hk => (fr k hk).elim (fun e => e ▸ hBA) (fun h => Nat.le_trans hB (Nat.le_trans hw.size h))⟩
end
section
variable {P : Program} {Q : Exit → Act → World → Prop} {ops : Array Oper} {rest : List Oper} {o : Oper} {a : Act} {w : World} {n : Nat} {D : List Deferred} {K : List (Nat × Value)}
theorem tl_app {t e : TypeId} {z : Value} {size bytes d n0 m : Nat} {s x : Operand} {v xv : Value} {xs news : List Value} (E : ET P t e z size bytes) (sv : Sv n D K a) (hgd : o.guard = none) (ho : o.op = .call { callee := .builtin .append, args := #[s, x], argTypes := #[t, t] }) (hd : o.dst = some d) (hdn : decide (d < n) = true)
   (hs : okV K s = true) (hsv : evV K s = v) (hx : okV K x = true) (hxv : evV K x = xv) (hown : Own w e size v n0 xs) (hsl : Sl w size xv m news) (h1 : news.all Value.oneCell' = true) (h63 : n0 + m ≤ 1099511627776)
   (h : ∀ a' ao cap w', Own w' e size (.slice ao (n0 + m) cap) (n0 + m) (xs ++ news) → Step w v w' (.slice ao (n0 + m) cap) → Sv n D ((d, .slice ao (n0 + m) cap) :: delK d K) a' → wpList P ops Q rest a' w') : wpList P ops Q (o :: rest) a w := by
 refine wpList_app E hgd s x ho v n0 xs (sv.ev hs hsv) hown xv m news (sv.ev hx hxv) hsl h1 h63 fun v' w' ho' hst => ?_
 obtain ⟨ao, cap, rfl, _⟩ := (Sl.of_own ho').shape
 rw [hd]
 exact h _ ao cap w' ho' hst (sv.put (of_decide_eq_true hdn) _)
theorem Own.at {w : World} {e : TypeId} {sz : Nat} {ao : Option Addr} {cap n : Nat} {xs : List Value} (h : Own w e sz (.slice ao n cap) n xs) (hn : 0 < n) : ∃ g, ao = some ⟨g, 0, none⟩ := by
 rcases h.2 with ⟨_, rfl⟩ | ⟨g, cap', cur, hv, _⟩
 · omega
 · simp only [Value.slice.injEq] at hv
   exact ⟨g, hv.1⟩
theorem own_set {w : World} {e : TypeId} {sz : Nat} {g cap n i : Nat} {xs cs : List Value} (h : Own w e sz (.slice (some ⟨g, 0, none⟩) n cap) n xs) (hi : i < n) (hc : cs.length = sz) :
   ∃ A B C cur2 , xs = A ++ (B ++ C) ∧ A.length = i * sz ∧ B.length = sz ∧ (w.heap[g]? = some (.cells (A ++ (B ++ (C ++ cur2))).toArray e (0, 0))) ∧ ∀ w', w'.heap[g]? = some (.cells (A ++ (cs ++ (C ++ cur2))).toArray e (0, 0)) → Own w' e sz (.slice (some ⟨g, 0, none⟩) n cap) n (A ++ (cs ++ C)) := by
 obtain ⟨hl, h2⟩ := h
 rcases h2 with ⟨hv, rfl⟩ | ⟨g', cap', cur, hv, _, hg, hnc, hcm, hcs, htake⟩
 · omega
 · simp only [Value.slice.injEq, Option.some.injEq, Addr.mk.injEq, and_true, true_and] at hv
   obtain ⟨rfl, rfl⟩ := hv
   have hle : i * sz + sz ≤ n * sz := by rw [← Nat.succ_mul]; exact Nat.mul_le_mul_right _ hi
   have hcur : n * sz ≤ cur.toList.length := by rw [Array.length_toList, hcs]; exact Nat.mul_le_mul_right _ hnc
   have hA : (xs.take (i * sz)).length = i * sz := by rw [List.length_take, hl]; omega
   have hB : ((xs.drop (i * sz)).take sz).length = sz := by rw [List.length_take, List.length_drop, hl]; omega
   have hx : xs = xs.take (i * sz) ++ ((xs.drop (i * sz)).take sz ++ xs.drop (i * sz + sz)) := by
     rw [← List.drop_drop, List.take_append_drop, List.take_append_drop]
   refine ⟨xs.take (i * sz), (xs.drop (i * sz)).take sz, xs.drop (i * sz + sz), cur.toList.drop (n * sz), hx, hA, hB, ?_, fun w' hw' => ?_⟩
   · rw [hg]
     have : cur.toList = xs ++ cur.toList.drop (n * sz) := by conv => lhs; rw [← List.take_append_drop (n * sz) cur.toList, htake]
     have e2 : xs.take (i * sz) ++ ((xs.drop (i * sz)).take sz ++ (xs.drop (i * sz + sz) ++ cur.toList.drop (n * sz))) = cur.toList := by
       conv => rhs; rw [this, hx]
       simp
     rw [e2]
   · refine ⟨by rw [List.length_append, List.length_append, hc, hA, List.length_drop, hl]; omega, .inr ⟨g, cap, _, rfl, Nat.zero_le _, hw', hnc, hcm, ?_, ?_⟩⟩
     · rw [List.size_toArray, List.length_append, List.length_append, List.length_append, hA, hc, List.length_drop, List.length_drop, hl]
       rw [← Array.length_toList] at hcs
       omega
     · rw [List.toList_toArray, ← List.append_assoc cs, ← List.append_assoc]
       exact List.take_left' (by rw [List.length_append, List.length_append, hA, hc, List.length_drop, hl]; omega)
end
theorem ix_run {P : Program} {t e : TypeId} {sz j n cap b off : Nat} {ik : IntKind} (hu : P.underlying t = some (.slice e)) (hs : (P.info? e).map (·.size) = some sz) (hj : j < n) (w : World) :
   (Instr.indexAt t (.slice (some ⟨b, off, none⟩) n cap) (.int ik (j : Int))).run P w = .ok (.pointer (some ⟨b, off + j * sz, none⟩)) w := by
 cases hi : P.info? e with
 | none => simp [hi] at hs
 | some i =>
   have hs' : i.size = sz := by simpa [hi] using hs
   have h1 : (0 : Int) ≤ (j : Int) ∧ (j : Int) < (n : Int) := ⟨by omega, by omega⟩
   simp [Instr.indexAt, asIntOf, run_underlying hu, sizeOf, typeInfo, hi, hs', h1, Addr.add, Result.andThen, hj]
section
variable {P : Program} {k : IntKind} {a b : Int} {t : TypeId} {x y : Operand} {w : World}
theorem rn_conv {s d : TypeId} {ds : TypeDesc} {k k' : IntKind} {a c : Int} (hs : P.underlying s = some ds) (hd : P.underlying d = some (.int k')) (h : k'.wrap a = c) : (convert s d (.int k a)).run P w = .ok (.int k' c) w := by
 subst h
 unfold convert
 simp only [Sem.run_bind, run_underlying hs, run_underlying hd, Result.andThen_ok]
 cases ds <;> rfl
end
end Go.Proofs.Yteakoleceoclkaa
