/- Key trees: new trees. -/
import Derived.Test.YteakoleceoclkaaK9
namespace Go.Proofs.Yteakoleceoclkaa
open Go.RowKit Go.Shelf
set_option linter.unusedSimpArgs false
set_option linter.unusedVariables false
attribute [local go_sem] Oper.semAt_some

theorem wpList_buildSliceR {P : Program} {w w2 : World} {ops : Array Oper} {rest : List Oper} {o : Oper} {a : Act} {Q : Exit → Act → World → Prop} (hgd : o.guard = none) (t : TypeId) (len : Nat) (parts : Array (Nat × Operand)) (ho : o.op = .buildSlice t len parts)
    (vs : Array (Nat × Value)) (hv : (parts.map fun (i, x) => (i, a.eval x)) = vs) {v : Value} (hr : (Instr.buildSlice t len vs).run P w = .ok v w2) (h : wpList P ops Q rest (a.put o.dst v) w2) : wpList P ops Q (o :: rest) a w := by
  refine wpList_plain hgd fun K hK => ?_
  unfold Oper.wp execOp
  simp only [ho, hv, Sem.run_bind, Sem.run_pure, Result.andThen_ok, hr]
  exact hK _ _ h
theorem bS1 (n : Nd) (hn : n.k.length = 32) (w : World) : (Instr.buildSlice 32 1 #[(0, nval n)]).run Try.prog w = .ok (.slice (some ⟨w.heap.size, 0, none⟩) 1 1) (w.alloc (.cells (ncells n).toArray 91)) := by
  obtain ⟨d, p, k⟩ := n
  obtain ⟨x0, x1, x2, x3, x4, x5, x6, x7, x8, x9, x10, x11, x12, x13, x14, x15, x16, x17, x18, x19, x20, x21, x22, x23, x24, x25, x26, x27, x28, x29, x30, x31, rfl⟩ := list32 k hn
  kernel_rfl
set_option maxRecDepth 100000 in
theorem new_walk (k : List Nat) (hk : Dg k) (w : World) : Calls Try.prog 21 #[dval k] w fun e w' => ∃ s, e = .returned (.agg #[s]) ∧ Own w' 91 34 s 1 (ncells ⟨0, 0, k⟩) ∧ Fresh w w' s := by
  have HK := hid hk
  obtain ⟨C, hC⟩ : ∃ C, C = bv k := ⟨_, rfl⟩
  have HC := hid hC
  have TD := hid (show TY Try.prog 29 C (.agg C.toArray) by rw [hC]; exact tyD k hk.1)
  obtain ⟨N, hN⟩ : ∃ N, N = ncells ⟨0, 0, k⟩ := ⟨_, rfl⟩
  have HN := hid hN
  have BN := hid (show ∀ w : World, (Instr.build 91 #[(2, .agg C.toArray)]).run Try.prog w = .ok (.agg N.toArray) w by rw [hC, hN]; exact bN2 k hk.1)
  have BS := hid (show ∀ w : World, (Instr.buildSlice 32 1 #[(0, .agg N.toArray)]).run Try.prog w = .ok (.slice (some ⟨w.heap.size, 0, none⟩) 1 1) (w.alloc (.cells N.toArray 91)) from fun w => by rw [hN]; exact bS1 ⟨0, 0, k⟩ hk.1 w)
  have NL := hid (show N.length = 34 by rw [hN]; exact ncells_len _ hk.1)
  unfold dval
  rw [← hC, ← hN]
  clear hk hC hN
  go_enter Try.func21, Try.ntmps21
  go_wp2_with (first
    | (refine wpList_loadTY rfl 29 (.tmp 1) rfl rfl TD.out (by rw [heap_past (by simp), heap_at (by simp)]) ?_)
    | (refine wpList_buildR rfl 91 _ rfl #[(2, .agg C.toArray)] (by simp only [List.map_toArray, List.map_cons, List.map_nil, Act.eval]; rfl) (BN.out _) ?_)
    | (refine wpList_buildSliceR rfl 32 1 _ rfl #[(0, .agg N.toArray)] (by simp only [List.map_toArray, List.map_cons, List.map_nil, Act.eval]; rfl) (BS.out _) ?_)
    | fail)
  refine ret_cell (p := 2) (b := w.heap.size + 1) rfl rfl (tyT (.slice (some ⟨w.heap.size + 1 + 1, 0, none⟩) 1 1) rfl) (by rw [heap_past (by simp), heap_at (by simp)]) rfl ⟨_, rfl, ⟨by rw [NL.out], .inr ⟨w.heap.size + 1 + 1, 1, N.toArray, rfl, by omega, heap_at (by simp), by omega, by decide, ?_, ?_⟩⟩, Step.fresh (grown_trans (grown_trans (World.grownBy_alloc _ _ _) (World.grownBy_alloc _ _ _)) (World.grownBy_alloc _ _ _)) (fun k hk => by simp [Value.ownBlock] at hk; omega)⟩
  · rw [List.size_toArray, NL.out]
  · exact List.take_of_length_le (by rw [List.toList_toArray, NL.out]; exact Nat.le_refl _)
set_option maxRecDepth 100000 in
theorem rnew_walk (k : List Nat) (hk : Dg k) (w : World) : Calls Try.prog 23 #[dval k] w fun e w' => ∃ s, e = .returned (.agg #[s]) ∧ Own w' 91 34 s 1 (ncells ⟨0, 0, k⟩) ∧ Fresh w w' s := by
  have HK := hid hk
  obtain ⟨C, hC⟩ : ∃ C, C = bv k := ⟨_, rfl⟩
  have HC := hid hC
  have TD := hid (show TY Try.prog 29 C (.agg C.toArray) by rw [hC]; exact tyD k hk.1)
  obtain ⟨N, hN⟩ : ∃ N, N = ncells ⟨0, 0, k⟩ := ⟨_, rfl⟩
  have HN := hid hN
  have BN := hid (show ∀ w : World, (Instr.build 91 #[(2, .agg C.toArray)]).run Try.prog w = .ok (.agg N.toArray) w by rw [hC, hN]; exact bN2 k hk.1)
  have BS := hid (show ∀ w : World, (Instr.buildSlice 32 1 #[(0, .agg N.toArray)]).run Try.prog w = .ok (.slice (some ⟨w.heap.size, 0, none⟩) 1 1) (w.alloc (.cells N.toArray 91)) from fun w => by rw [hN]; exact bS1 ⟨0, 0, k⟩ hk.1 w)
  have NL := hid (show N.length = 34 by rw [hN]; exact ncells_len _ hk.1)
  unfold dval
  rw [← hC, ← hN]
  clear hk hC hN
  go_enter Try.func23, Try.ntmps23
  go_wp2_with (first
    | (refine wpList_loadTY rfl 29 (.tmp 1) rfl rfl TD.out (by rw [heap_past (by simp), heap_at (by simp)]) ?_)
    | (refine wpList_buildR rfl 91 _ rfl #[(2, .agg C.toArray)] (by simp only [List.map_toArray, List.map_cons, List.map_nil, Act.eval]; rfl) (BN.out _) ?_)
    | (refine wpList_buildSliceR rfl 32 1 _ rfl #[(0, .agg N.toArray)] (by simp only [List.map_toArray, List.map_cons, List.map_nil, Act.eval]; rfl) (BS.out _) ?_)
    | fail)
  refine ret_cell (p := 2) (b := w.heap.size + 1) rfl rfl (tyT (.slice (some ⟨w.heap.size + 1 + 1, 0, none⟩) 1 1) rfl) (by rw [heap_past (by simp), heap_at (by simp)]) rfl ⟨_, rfl, ⟨by rw [NL.out], .inr ⟨w.heap.size + 1 + 1, 1, N.toArray, rfl, by omega, heap_at (by simp), by omega, by decide, ?_, ?_⟩⟩, Step.fresh (grown_trans (grown_trans (World.grownBy_alloc _ _ _) (World.grownBy_alloc _ _ _)) (World.grownBy_alloc _ _ _)) (fun k hk => by simp [Value.ownBlock] at hk; omega)⟩
  · rw [List.size_toArray, NL.out]
  · exact List.take_of_length_le (by rw [List.toList_toArray, NL.out]; exact Nat.le_refl _)
end Go.Proofs.Yteakoleceoclkaa
