/- The helpers of the laws. (merged by merge.py) -/
import Derived.Test.YteakoleceoclkaaMK5
import Derived.Test.YteakoleceoclkaaMK4
namespace Go.Proofs.Yteakoleceoclkaa
/-! ## K19 -/
section
open Go.RowKit Go.Shelf
set_option linter.unusedSimpArgs false
set_option linter.unusedVariables false
attribute [local go_sem] Oper.semAt_some
end
/-! ## K20 -/
section
open Go.RowKit Go.Shelf
set_option linter.unusedSimpArgs false
set_option linter.unusedVariables false
attribute [local go_sem] Oper.semAt_some
theorem wpQuiet_bin {P : Program} {ops : Array Oper} {C : World → Prop} {Q : Act → Prop} {a : Act} {o : Oper} {rest : List Oper} (hgd : o.guard = none) (b : BinOp) (ty ty2 : TypeId) (x y : Operand) (ho : o.op = .binOp b ty x y ty2)
   {vx vy v : Value} (hx : a.eval x = vx) (hy : a.eval y = vy) (hr : ∀ w, (do eqGuard b ty x y vx vy; binOp b ty vx vy : Sem Value).run P w = .ok v w) (h : wpQuiet P ops C Q rest (a.put o.dst v)) : wpQuiet P ops C Q (o :: rest) a := by
 unfold wpQuiet
 have hw : Region.wanted o (yielded ops a.tmps) = true := by simp [Region.wanted, hgd]
 rw [if_pos hw]
 refine ⟨v, fun w _ => ?_, h⟩
 have hr := hr w
 unfold Oper.quietAt execOp
 simp only [ho, hx, hy]
 simp only [Sem.run_bind] at hr ⊢
 cases hg : (eqGuard b ty x y vx vy).run P w with
 | ok u w1 =>
   rw [hg] at hr
   simp only [Result.andThen_ok] at hr ⊢
   rw [hr]
   exact ⟨rfl, rfl⟩
 | halt u w1 =>
   rw [hg] at hr
   cases hr
theorem node_ne_same {x : Nd} (hx : Nok x) (px py : Operand) (w : World) : (do eqGuard .neq 91 px py (nval x) (nval x); binOp .neq 91 (nval x) (nval x) : Sem Value).run Try.prog w = .ok (.bool false) w := by
 have h := (node_eqb hx hx px py w).2
 simpa using h
set_option maxRecDepth 100000 in
set_option maxHeartbeats 4000000 in
theorem sameTree_walk {l : List Nd} {s t : Value} {w : World} (hs : RdT w s l) (ht : RdT w t l) :
   Calls Try.prog 26 #[.agg #[s], .agg #[t]] w fun e w' => e = .returned (.bool true) ∧ w.grownBy w' none := by
 obtain ⟨L, hL, hs2⟩ := hs.k
 obtain ⟨L2, hL2, ht2⟩ := ht.k
 obtain ⟨ao, cap, rfl⟩ := hs.shape
 obtain ⟨bo, cbp, rfl⟩ := ht.shape
 have HS := hid hs2
 have HT := hid ht2
 have HL := hid hL
 have HL2 := hid hL2
 obtain ⟨m, hm⟩ : ∃ m, m = l.length := ⟨_, rfl⟩
 have hm0 : m ≤ 1099511627776 := by rw [hm]; exact hs.2.2.2
 rw [← hm] at HS HT ⊢
 have HM := hid hm
 obtain ⟨w1, hw1⟩ : ∃ x, x = (w.alloc (.cells #[.slice ao m cap] 34)).alloc (.cells #[.slice bo m cbp] 34) := ⟨_, rfl⟩
 have HG1 := hid (show w.grownBy w1 none by rw [hw1]; exact grown_trans (World.grownBy_alloc _ _ _) (World.grownBy_alloc _ _ _))
 have c0 : w1.cell? ⟨w.heap.size, 0, none⟩ = some (.slice ao m cap) := by
   rw [hw1, cell_of_row _ _ _ _ _ _ (show ((w.alloc (.cells #[.slice ao m cap] 34)).alloc (.cells #[.slice bo m cbp] 34)).heap[w.heap.size]? = some (.cells #[.slice ao m cap] 34 (0, 0)) by rw [heap_past (by simp), World.alloc_heap_new])]; rfl
 have c1 : w1.cell? ⟨w.heap.size + 1, 0, none⟩ = some (.slice bo m cbp) := by
   rw [hw1, cell_of_row _ _ _ _ _ _ (show ((w.alloc (.cells #[.slice ao m cap] 34)).alloc (.cells #[.slice bo m cbp] 34)).heap[w.heap.size + 1]? = some (.cells #[.slice bo m cbp] 34 (0, 0)) by rw [heap_at (by simp)])]; rfl
 have y0 := block_lt_of_cell c0
 have y1 := block_lt_of_cell c1
 have C0 := hid c0
 have C1 := hid c1
 have HG0 := hid (World.grownBy.refl w1 none)
 clear hs ht hs2 ht2 hL hL2 hm
 go_enter Try.func26, Try.ntmps26
 refine wp_seq_k fun K0 k0 => ?_
 have HK0 := hid k0
 clear k0
 go_wp2
 rw [← hw1]
 refine HK0.out _ _ ?_
 clear HK0 hw1
 go_wp2
 go_loopw [5] (fun i wr => ∃ k : Nat, k ≤ m ∧ i = .int .i64 k ∧ Hid (w1.grownBy wr none)) (fun i _ => (m - intOf i).toNat)
 case atStart => exact ⟨0, by omega, rfl, HG0⟩
 case round =>
   clear HG0 c0 c1 y0 y1
   obtain ⟨k, hk, rfl, HG⟩ := hrel
   have c0 := HG.out.cell C0.out (by simp)
   have c1 := HG.out.cell C1.out (by simp)
   have y0 := block_lt_of_cell c0
   have y1 := block_lt_of_cell c1
   by_cases hlt : k < m
   · have hk1 : k < (L.map (·.1)).length := by rw [HL.out, ← HM.out]; exact hlt
     have hk2 : k < (L2.map (·.1)).length := by rw [HL2.out, ← HM.out]; exact hlt
     have hkl : k < l.length := by rw [← HM.out]; exact hlt
     have r1 := (HS.out.kn HG1.out).kn HG.out
     have r2 := (HT.out.kn HG1.out).kn HG.out
     obtain ⟨b1, off1, rfl, hr1⟩ := r1.1.range hk1
     obtain ⟨b2, off2, rfl, hr2⟩ := r2.1.range hk2
     have hNX : Nok (L.map (·.1))[k] := r1.1.2 _ (List.getElem_mem hk1)
     have e1 : (L.map (·.1))[k] = l[k] := by simp only [HL.out]
     have e2 : (L2.map (·.1))[k] = l[k] := by simp only [HL2.out]
     rw [e1] at hr1 hNX
     rw [e2] at hr2
     have HR1 := hid hr1
     have HR2 := hid hr2
     have HNX := hid hNX
     generalize l[k] = x at *
     have TN := hid (tyN x HNX.out.1.1)
     have i0 : (0 : Int) ≤ (k : Int) := by omega
     have i1 : (k : Int) < (m : Int) := by omega
     have HL1 := hid (show ∀ w', (∃ s : Gw wr, w' = s.val) → (Instr.loadAt 91 (.pointer (some ⟨b1, off1 + k * 34, none⟩))).run Try.prog w' = .ok (nval x) w' from fun w' ⟨s, h⟩ => by subst h; exact loadsAt TN.out (rangeAt_kept HR1.out s.g))
     have HL2' := hid (show ∀ w', (∃ s : Gw wr, w' = s.val) → (Instr.loadAt 91 (.pointer (some ⟨b2, off2 + k * 34, none⟩))).run Try.prog w' = .ok (nval x) w' from fun w' ⟨s, h⟩ => by subst h; exact loadsAt TN.out (rangeAt_kept HR2.out s.g))
     have d0 : ∀ s : Gw wr, s.val.cell? ⟨w.heap.size, 0, none⟩ = some (.slice (some ⟨b1, off1, none⟩) m cap) := fun s => s.cell c0
     have d1 : ∀ s : Gw wr, s.val.cell? ⟨w.heap.size + 1, 0, none⟩ = some (.slice (some ⟨b2, off2, none⟩) m cbp) := fun s => s.cell c1
     clear hr1 hr2 hNX e1 e2 r1 r2 hk1 hk2 hkl
     go_wp2
     refine wp_region_grown (by kernel_rfl) (by kernel_rfl) ?_
     iterate 4 (quiet_step (fail))
     refine wpQuiet_load rfl 91 (.tmp 23) rfl rfl HL1.out ?_
     iterate 4 (quiet_step (fail))
     refine wpQuiet_load rfl 91 (.tmp 28) rfl rfl HL2'.out ?_
     refine wpQuiet_bin rfl .neq 91 91 (.tmp 24) (.tmp 29) rfl rfl rfl (fun w => node_ne_same HNX.out _ _ w) ?_
     refine wpQuiet_nil ?_
     rintro _ ⟨s, rfl⟩
     have GS := hid s.g
     generalize s.val = W3 at *
     clear d0 d1 HL1 HL2'
     try go_frame
     go_wp2
     go_roundw
     case rel => exact ⟨k + 1, by omega, by go_num, hid (grown_trans HG.out GS.out)⟩
     case measure => simp [intOf]; omega
   · obtain rfl : k = m := by omega
     go_wp2
     go_ret
     exact ⟨rfl, grown_trans HG1.out HG.out⟩
end
/-! ## K21 -/
section
open Go.RowKit Go.Shelf
set_option linter.unusedSimpArgs false
set_option linter.unusedVariables false
attribute [local go_sem] Oper.semAt_some
theorem Fresh.step {w W W' : World} {v v' : Value} (h : Fresh w W v) (s : Step W v W' v') : Fresh w W' v' := by
 have hb : ∀ k, v.ownBlock = some k → w.heap.size ≤ k := fun k hk => (h.2 k hk).elim (fun h => by simp [nilS, Value.ownBlock] at h) id
 exact Step.fresh (grown_from h.none s.1 hb) fun k hk => (s.2 k hk).elim (hb k) (fun h1 => Nat.le_trans h.none.size h1)
end
/-! ## Q8 -/
section
open Go.RowKit Go.Shelf
set_option linter.unusedSimpArgs false
set_option linter.unusedVariables false
section
variable {P : Program} {ops : Array Oper} {L : List Sp} {n : Nat} {w0 : World} {o : Oper}
theorem run_extract {a : Act} {s i : Nat} {vs : Array Value} {v : Value} (ho : o.op = .extract (.tmp s) i) (hx : a.tmps.getD s undef = .tuple vs) (hi : vs[i]? = some v) (w : World) : (execOp a.eval o).run P w = .ok (.value v) w := by
 have hx' : a.eval (.tmp s) = .tuple vs := hx
 simp only [execOp, ho, hx']
 simp [Instr.extract, hi]
end
def Sp.tree (r : List Nd × Int) : Sp := ⟨fun w v => ∃ ao cap, v = .agg #[.slice ao r.1.length cap] ∧ RdT w (.slice ao r.1.length cap) r.1, fun _ _ _ hg ⟨ao, cap, h1, h2⟩ => ⟨ao, cap, h1, h2.kn hg⟩⟩
end
/-! ## K22 -/
section
open Go.RowKit Go.Shelf
set_option linter.unusedSimpArgs false
set_option linter.unusedVariables false
attribute [local go_sem] Oper.semAt_some
end
end Go.Proofs.Yteakoleceoclkaa
