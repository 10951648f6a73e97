/- The tape: New. -/
import Derived.Test.YtbddollbjajcnaaGreatN9
import Derived.Deep.AppendSrc
import Derived.Laws.Tables
import Derived.Deep.RegionHeld
import Derived.KernelRfl
namespace Go.Proofs.YtbddollbjajcnaaGreat
open Go Go.RowKit
noncomputable section
set_option linter.unusedVariables false
set_option linter.unusedSimpArgs false
theorem TapeAt.out {w w' : World} {bt B : Nat} {xs : List Int} {a a' : Nat} {r : Int} {e : Ending} (h : TapeAt w bt B xs a) (k : Out bt w r a' e w') : e = .returned (.int .i64 r) ∧ w.grownBy w' (some bt) ∧ TapeAt w' bt B xs a' := by
  obtain ⟨k1, k2, k3, k4, k5⟩ := k
  obtain ⟨cap, h0⟩ := h.c0
  refine ⟨k1, k2, ⟨cap, (k4 _ (by simp)).trans h0⟩, k3, (k5 _).trans h.fz, fun j x hx => (k4 _ (fun q => ?_)).trans (h.el j x hx), h.sm, h.ne⟩
  have := congrArg Addr.block q
  exact h.ne this.symm
theorem tape_next {w : World} {bt B : Nat} {xs : List Int} {a : Nat} (h : TapeAt w bt B xs a) : Calls Tryz.prog 9 #[.pointer (some ⟨bt, 0, none⟩), .int .i64 4] w (fun e w' => e = .returned (.int .i64 (nextV xs a).1) ∧ w.grownBy w' (some bt) ∧ TapeAt w' bt B xs (nextV xs a).2) := by
  obtain ⟨cap, h0⟩ := h.c0
  by_cases hn : xs.length = 0
  · have e : nextV xs a = (0, a) := by unfold nextV; rw [if_pos (.inl hn)]
    rw [e]
    rw [hn] at h0
    exact Calls.mono (next0 w bt B cap a h0 h.c1) fun e w' k => h.out k
  · by_cases hge : 4 * xs.length ≤ a
    · have e : nextV xs a = (0, a) := by unfold nextV; rw [if_pos (.inr hge)]
      rw [e]
      exact Calls.mono (next1 w bt B cap a xs.length (by omega) h.sm hge h0 h.c1) fun e w' k => h.out k
    · by_cases hlt : a < xs.length
      · have e : nextV xs a = (nv (xs.getD a 0), a + 1) := by unfold nextV; rw [if_neg (by omega), if_pos hlt]
        rw [e]
        have hx : xs[a]? = some (xs.getD a 0) := by rw [List.getD_eq_getElem?_getD, List.getElem?_eq_getElem hlt]; rfl
        exact Calls.mono (next2 w bt B cap a xs.length _ (by omega) h.sm hlt h0 h.c1 h.fz (h.el a _ hx)) fun e w' k => h.out k
      · have e : nextV xs a = (nv (bits BinOp.xor IntKind.i64 (xs.getD (a % xs.length) 0 / 2 ^ (a / xs.length)) ((a / xs.length : Nat) : Int)), a + 1) := by unfold nextV; rw [if_neg (by omega), if_neg hlt]
        rw [e]
        have hm : a % xs.length < xs.length := Nat.mod_lt _ (by omega)
        have hx : xs[a % xs.length]? = some (xs.getD (a % xs.length) 0) := by rw [List.getD_eq_getElem?_getD, List.getElem?_eq_getElem hm]; rfl
        have hd1 : 0 < a / xs.length := Nat.div_pos (by omega) (by omega)
        have hd2 : a / xs.length ≤ 3 := by
          have : a / xs.length < 4 := (Nat.div_lt_iff_lt_mul (by omega)).2 (by omega)
          omega
        exact Calls.mono (next3 w bt B cap a xs.length (a / xs.length) (a % xs.length) _ (by omega) h.sm hd1 hd2 hm (by rw [Nat.mul_comm]; exact (Nat.div_add_mod a xs.length).symm) h0 h.c1 h.fz (h.el _ _ hx)) fun e w' k => h.out k
def tapeArg : List XV → Option XP
  | [x, y] => match x with
    | .one (.ptr (some p)) => bif sameV y (.one (.int .i64 4)) then (bif Nat.beq p.2 0 then some p.1 else none) else none
    | _ => none
  | _ => none
theorem tapeArg_ok {l : List XV} {p : XP} (h : tapeArg l = some p) : l = [.one (.ptr (some (p, 0))), .one (.int .i64 4)] := by
  unfold tapeArg at h
  split at h
  · split at h
    · rename_i q
      obtain ⟨h1, h2⟩ := bif_some h
      obtain ⟨h3, h4⟩ := bif_some h2
      obtain ⟨q1, q2⟩ := q
      cases h4
      have := Nat.eq_of_beq_eq_true h3
      simp only at this
      subst this
      rw [sameV_ok h1]
    · cases h
  · cases h
def popX (s : XS) : Option (List (XV × XS)) :=
  match s.k.script with
  | c :: r => some [(.one c, ⟨s.heap, s.next, ⟨s.k.lo, s.k.tape, r, s.k.base⟩⟩)]
  | [] => none
/-- Next, by the script -/
def nextHook : CallF := fun g args s =>
  bif Nat.beq g 9 then ob (tapeArg args) fun p => ob s.k.tape fun t => bif p.beq t.1 then (bif s.may t.1 then popX s else none) else none else none
theorem nextHook_ok (hE : FnE Tryz.prog 9) : CallF.OK Tryz.prog nextHook := fun g args s outs h => by
  obtain ⟨hg, h0⟩ := bif_some h
  obtain ⟨p1, ha, h1⟩ := ob_some h0
  obtain ⟨⟨tp, tq⟩, ht, h2⟩ := ob_some h1
  obtain ⟨h3, h5⟩ := bif_some h2
  obtain ⟨h4, h6⟩ := bif_some h5
  clear h h0 h1 h2 h5
  have hg := Nat.eq_of_beq_eq_true hg
  have h3 := XP.beq_eq.1 h3
  have ha := tapeArg_ok ha
  simp only at h3 h4
  subst hg h3 ha
  unfold popX at h6
  cases hs : s.k.script with
  | nil => rw [hs] at h6; cases h6
  | cons c r =>
      rw [hs] at h6
      cases h6
      refine ⟨hE, fun α w vs H hargs R hR => ?_⟩
      cases hargs with
      | cons a1 a2 =>
      cases a2 with
      | cons a2 a3 =>
      cases a3
      obtain ⟨l, m, us, q1, q2, q3, q4, q5, q6, q7⟩ := H.tp p1 tq ht
      obtain ⟨l', q1', hv⟩ := a1
      rw [q1] at q1'
      cases q1'
      obtain rfl := hv
      obtain rfl := a2
      rw [hs] at q6
      cases q6 with
      | cons f1 f2 =>
      rename_i v vr
      obtain ⟨xs, a, t1, t2⟩ := q7 w rfl rfl
      obtain ⟨l2, e1, e2⟩ := H.live p1 _ q3
      rw [q1] at e1
      cases e1
      have hsz : l.blk < w.heap.size := e2.lt
      simp only [List.length_cons, seqV, List.map_cons] at t2
      have t3 := List.cons.inj t2
      refine Calls.mono (tape_next t1) ?_
      rintro e w' ⟨rfl, k1, k2⟩
      have hblk : ∀ b o n, XT.get b s.heap = some o → α b = some n → b ≠ p1 → n.blk < w.heap.size → w'.heap[n.blk]? = w.heap[n.blk]? := fun b o n hb hn hne hlt => k1.block n.blk hlt fun e => hne (H.inj b p1 o _ n l hb q3 hn q1 (Option.some.inj e))
      have hOR : ∀ b o, XT.get b s.heap = some o → ∃ n, α b = some n ∧ OR α w' n o := fun b o hb => by
        obtain ⟨n, e3, e4⟩ := H.live b o hb
        refine ⟨n, e3, ?_⟩
        by_cases hbp : b = p1
        · subst hbp
          rw [q3] at hb
          cases hb
          rw [q1] at e3
          cases e3
          exact Nat.lt_of_lt_of_le hsz k1.size
        · exact OR.at (hblk b o n hb e3 hbp e4.lt) e4
      have G : GR α s w α ⟨s.heap, s.next, ⟨s.k.lo, s.k.tape, r, s.k.base⟩⟩ w' := by
        refine ⟨XM.le_refl α, k1.os, k1.tape, k1.output, k1.size, fun B hB hno => k1.block B hB fun e => hno p1 _ l q3 q1 (Option.some.inj e).symm, fun b o n h5 h6 => .inr ⟨b, o, n, h5, h6, rfl⟩, Nat.le_refl _, rfl, fun b o n hb hlo hn hlt => ?_, fun _ _ => rfl, fun b o h5 => .inl ⟨o, h5⟩, by rw [hs]; simp, fun e => ?_, fun e => ?_⟩
        · refine ⟨hb, hblk b o n hb hn (fun e => ?_) hlt⟩
          subst e
          have := XS.may_le h4
          omega
        · rw [hs] at e
          simp at e
        · have := congrArg (fun k : XK => k.script.length) e
          simp only [hs, List.length_cons] at this
          omega
      refine hR _ _ (List.mem_singleton.2 rfl) α _ w' ?_ ⟨H.sym, H.low, hOR, H.inj, H.fresh, fun p q hp => ?_, H.base⟩ G ⟨rfl, rfl, rfl⟩
      · have : v = Value.int .i64 (nextV xs a).1 := t3.1
        rw [← this]
        exact f1
      · have hp : s.k.tape = some (p, q) := hp
        rw [ht] at hp
        cases hp
        refine ⟨l, m, vr, q1, q2, q3, Nat.lt_of_lt_of_le q4 k1.size, q5, f2, fun z z1 z2 => ⟨xs, (nextV xs a).2, k2.of z1 z2, ?_⟩⟩
        exact t3.2
end
end Go.Proofs.YtbddollbjajcnaaGreat
namespace Go.Proofs.YtbddollbjajcnaaGreat
open Go Go.RowKit
set_option linter.unusedVariables false
set_option linter.unusedSimpArgs false
theorem wpv {P : Program} {ops : Array Oper} {Q : Exit → Act → World → Prop} {o : Oper} {l : List Oper} {a : Act} {w w' : World} {v : Value} (hg : o.guard = none) (hr : (execOp a.eval o).run P w = .ok (.value v) w') (h : wpList P ops Q l (a.put o.dst v) w') : wpList P ops Q (o :: l) a w := by
  refine wpList_plain hg fun K hK => ?_
  unfold Oper.wp
  rw [hr]
  exact hK _ _ h
theorem ints_und : Tryz.prog.underlying 22 = some (.slice 3) := by kernel_rfl
def intB : Option TypeInfo → Bool
  | some i => match i.zero with
    | some (.int .i64 z) => decide (z = 0) && decide (i.size = 1) && decide (i.bytes = 8)
    | _ => false
  | none => false
theorem intB_ok {o : Option TypeInfo} (h : intB o = true) : ∃ i, o = some i ∧ i.zero = some (.int .i64 0) ∧ i.size = 1 ∧ i.bytes = 8 := by
  unfold intB at h
  split at h
  · rename_i i
    split at h
    · rename_i z hz
      simp only [Bool.and_eq_true, decide_eq_true_eq] at h
      obtain ⟨⟨rfl, h2⟩, h3⟩ := h
      exact ⟨i, rfl, hz, h2, h3⟩
    · cases h
  · cases h
theorem ints_inf : ∃ i, Tryz.prog.info? 3 = some i ∧ i.zero = some (.int .i64 0) ∧ i.size = 1 ∧ i.bytes = 8 := intB_ok (by kernel_rfl)
theorem run_empty' {P : Program} {t e : TypeId} {i : TypeInfo} (hu : P.underlying t = some (.slice e)) (h1 : P.info? e = some i) (h3 : i.size = 1) (w : World) : (Instr.buildSlice t 0 #[]).run P w = .ok (.slice (some ⟨w.heap.size, 0, none⟩) 0 0) (w.alloc (.cells #[] e)) := by
  simp [Instr.buildSlice, run_underlying hu, sizeOf, typeInfo, h1, h3, Instr.fill, newRow]
  congr 2
  apply Array.ext'
  simp
theorem run_empty (w : World) : (Instr.buildSlice 22 0 #[]).run Tryz.prog w = .ok (.slice (some ⟨w.heap.size, 0, none⟩) 0 0) (w.alloc (.cells #[] 3)) := by
  obtain ⟨i, h1, h2, h3, h4⟩ := ints_inf
  exact run_empty' ints_und h1 h3 w
theorem run_clone (w : World) (B : Nat) (b0 : Option Addr) (n cap : Nat) (xs : List Int) (hn : xs.length = n) (hb : b0 = none → n = 0) (hx : ∀ j x, xs[j]? = some x → ∀ a, b0 = some a → w.cell? (a.add j) = some (.int .i64 x)) (hsz : n * 8 ≤ 140737488355328) (hB : B + 1 = w.heap.size) :
    ∃ C cap' w', (Builtin.append_ #[22, 22] 22 #[.slice (some ⟨B, 0, none⟩) 0 0, .slice b0 n cap]).run Tryz.prog w = .ok (.slice (some ⟨C, 0, none⟩) n cap') w' ∧ w.grownBy w' none ∧ B ≤ C ∧ C < w'.heap.size ∧ ∀ j x, xs[j]? = some x → w'.cell? ⟨C, j, none⟩ = some (.int .i64 x) := by
  obtain ⟨i, h1, h2, h3, h4⟩ := ints_inf
  have hs : Src Tryz.prog i.size 22 (.slice b0 n cap) n (xs.map (.int .i64)) w := by
    rw [h3]
    cases b0 with
    | none =>
      obtain rfl := hb rfl
      obtain rfl := List.eq_nil_of_length_eq_zero hn
      exact Src.ofNil _ ints_und cap
    | some a =>
      refine Src.ofSlice _ ints_und a n cap _ (by simp [hn]) (fun j u hu => ?_) (fun u hu => ?_)
      · rw [List.getElem?_map] at hu
        cases hj : xs[j]? with
        | none => rw [hj] at hu; cases hu
        | some x => rw [hj] at hu; cases hu; exact hx j x hj a rfl
      · obtain ⟨x, _, rfl⟩ := List.mem_map.1 hu
        rfl
  by_cases hz : n = 0
  · have e : xs = [] := List.eq_nil_of_length_eq_zero (by omega)
    subst e
    subst hz
    have hr := run_append_room_src (P := Tryz.prog) w 22 22 22 3 i ints_und h1 B 0 0 0 _ 0 _ hs (Nat.le_refl _) (fun j hj => by simp at hj) (fun j hj => by simp at hj)
    refine ⟨B, 0, _, hr, ?_, Nat.le_refl _, ?_, fun j x hj => by simp at hj⟩
    · simp only [List.map_nil]
      exact ⟨rfl, rfl, rfl, Nat.le_refl _, fun _ _ _ => rfl⟩
    · simp only [List.map_nil]
      show B < w.heap.size
      omega
  · have hnx : Builtin.nextslicecap (0 + n) 0 * i.bytes ≤ 281474976710656 := by
      rw [h4]
      unfold Builtin.nextslicecap
      rw [if_pos (by omega)]
      omega
    have hr := run_append_grow_src (P := Tryz.prog) w 22 22 22 3 i (.int .i64 0) ints_und h1 h2 (some ⟨B, 0, none⟩) 0 0 [] (run_firstCells_some w.drew i.size 0 ⟨B, 0, none⟩ 0 0 [] (by simp) (fun j u hu => by simp at hu)) _ n _ hs (by omega) (by omega) hnx
    rw [Nat.zero_add] at hr
    refine ⟨_, _, _, hr, ?_, by omega, by simp, fun j x hj => ?_⟩
    · exact ⟨rfl, rfl, rfl, by simp, fun k hk _ => by show (w.heap.push _)[k]? = _; rw [Array.getElem?_push_lt hk]; simp [hk]⟩
    · have hlt := (List.getElem?_eq_some_iff.1 hj).1
      rw [show w.heap.size = w.drew.heap.size from rfl, World.cell?_alloc_new]
      rw [Array.getElem?_append_left (by simp; exact hlt)]
      simp [hj]
theorem built_tape (C n cap : Nat) : Tryz.prog.built 96 [(0, .slice (some ⟨C, 0, none⟩) n cap)] = some #[.slice (some ⟨C, 0, none⟩) n cap, .int .i64 0] := by kernel_rfl
theorem box_exec {P : Program} {o : Oper} {a : Act} {w : World} {e : TypeId} {y : Operand} {vs : Array Value} (ho : o.op = .box e y) (hy : a.eval y = .agg vs) : (execOp a.eval o).run P w = .ok (.value (.pointer (some ⟨w.heap.size, 0, none⟩))) (w.alloc (.cells vs e)) := by
  simp [execOp, ho, hy, Instr.box, newVar, newRow, Value.cells]
theorem build_exec {P : Program} {o : Oper} {a : Act} {w : World} {t : TypeId} {y : Operand} {v : Value} {cs : Array Value} (ho : o.op = .build t #[(0, y)]) (hy : a.eval y = v) (h : P.built t [(0, v)] = some cs) : (execOp a.eval o).run P w = .ok (.value (.agg cs)) w := by
  have := run_build (P := P) w t #[(0, v)] cs h
  simp [execOp, ho, hy, this]
set_option maxRecDepth 100000 in
set_option maxHeartbeats 1000000 in
theorem new_walk (w : World) (b0 : Option Addr) (n cap : Nat) (xs : List Int) (hn : xs.length = n) (hb : b0 = none → n = 0) (hx : ∀ j x, xs[j]? = some x → ∀ a, b0 = some a → w.cell? (a.add j) = some (.int .i64 x)) (hsz : n * 8 ≤ 140737488355328) :
    Calls Tryz.prog 7 #[.slice b0 n cap] w (fun e w' => ∃ bt B, e = .returned (.pointer (some ⟨bt, 0, none⟩)) ∧ w.grownBy w' none ∧ w.heap.size ≤ bt ∧ w.heap.size ≤ B ∧ bt < w'.heap.size ∧ B < w'.heap.size ∧ TapeAt w' bt B xs 0) := by
  have hx1 : ∀ j x, xs[j]? = some x → ∀ a, b0 = some a → (w.alloc (.cells #[] 3)).cell? (a.add j) = some (.int .i64 x) := fun j x hj a ha => by have k := hx j x hj a ha; rw [World.cell?_alloc_some (w := w) (h := by rw [k]; rfl)]; exact k
  obtain ⟨C, cap', w2, hr, hg, hC1, hC2, hel⟩ := run_clone (w.alloc (.cells #[] 3)) w.heap.size b0 n cap xs hn hb hx1 hsz (by simp)
  go_enter Tryz.func7, Tryz.ntmps7
  refine wp_seq ?_
  refine wp_region_list ?_
  refine wpv rfl rfl ?_
  refine wpList_nil ?_
  refine wp_seq ?_
  refine wp_region_list ?_
  refine wpv (v := .slice (some ⟨w.heap.size, 0, none⟩) 0 0) (w' := w.alloc (.cells #[] 3)) rfl (by simp only [execOp, Array.map_empty, run_empty, Sem.run_bind, Result.andThen_ok]; rfl) ?_
  refine wpv (v := .slice b0 n cap) rfl rfl ?_
  refine wpv (v := .slice (some ⟨C, 0, none⟩) n cap') (w' := w2) rfl (by rw [run_builtin rfl]; simp [builtin]; exact congrArg (fun r => r.andThen fun a w' => Result.ok (Next.value a) w') hr) ?_
  refine wpv (v := .agg #[.slice (some ⟨C, 0, none⟩) n cap', .int .i64 0]) (w' := w2) rfl (build_exec rfl rfl (built_tape C n cap')) ?_
  refine wpv (v := .pointer (some ⟨w2.heap.size, 0, none⟩)) (w' := w2.alloc (.cells #[.slice (some ⟨C, 0, none⟩) n cap', .int .i64 0] 96)) rfl (box_exec rfl rfl) ?_
  refine wpv rfl rfl ?_
  refine wpList_nil ?_
  refine wp_ret ?_
  have g1 : w.grownBy (w2.alloc (.cells #[.slice (some ⟨C, 0, none⟩) n cap', .int .i64 0] 96)) none := by
    have h1 : w.grownBy w2 none := ⟨hg.os, hg.tape, hg.output, Nat.le_trans (by simp) hg.size, fun k hk hne => (hg.block k (by simp; omega) hne).trans (by show (w.heap.push _)[k]? = _; rw [Array.getElem?_push_lt hk]; simp [hk])⟩
    exact ⟨h1.os, h1.tape, h1.output, Nat.le_trans h1.size (by simp), fun k hk hne => (show (w2.heap.push _)[k]? = _ by rw [Array.getElem?_push_lt (Nat.lt_of_lt_of_le hk h1.size)]; simp [Nat.lt_of_lt_of_le hk h1.size]).trans (h1.block k hk hne)⟩
  have hle : w.heap.size ≤ w2.heap.size := Nat.le_trans (by simp) hg.size
  refine bodyPost_ret (v := .pointer (some ⟨w2.heap.size, 0, none⟩)) (results_tmp (t := 2) rfl _ _ _) rfl ⟨w2.heap.size, C, rfl, g1, hle, hC1, by simp, by simp; omega, ?_⟩
  refine ⟨⟨cap', ?_⟩, ?_, ?_, fun j x hj => ?_, by omega, by omega⟩
  · rw [World.cell?_alloc_new, hn]; rfl
  · rw [World.cell?_alloc_new]; rfl
  · unfold World.frozen?
    rw [show (w2.alloc (.cells #[.slice (some ⟨C, 0, none⟩) n cap', .int .i64 0] 96)).heap[w2.heap.size]? = some (.cells #[.slice (some ⟨C, 0, none⟩) n cap', .int .i64 0] 96) from heap_alloc_new w2 _]
    rfl
  · rw [World.cell?_alloc_lt _ _ _ hC2]
    exact hel j x hj
end Go.Proofs.YtbddollbjajcnaaGreat
