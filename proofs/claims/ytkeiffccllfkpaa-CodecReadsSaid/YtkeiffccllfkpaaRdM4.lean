import Derived.Test.YtkeiffccllfkpaaRdM2
set_option linter.unusedSimpArgs false
set_option linter.unusedVariables false
set_option maxRecDepth 100000
set_option maxHeartbeats 1000000
/- Read at its types: lists. (merged by merge.py) -/
namespace Go.Proofs.Ytkeiffccllfkpaa
/-! ## RdTStr -/
section
open Go.RowKit
theorem wpList_store_ty {P : Program} {ops : Array Oper} {rest : List Oper} {o : Oper} {a : Act} {w w' : World} {Q : Exit → Act → World → Prop} (hgd : o.guard = none) {T : TypeId} (x y : Operand) (ho : o.op = .store T x y)
   {p v : Value} (hx : a.eval x = p) (hy : a.eval y = v) (hr : (Instr.storeAt T p v).run P w = .ok () w') (h : wpList P ops Q rest (a.put o.dst undef) w') : wpList P ops Q (o :: rest) a w := by
 refine wpList_plain hgd fun K hK => ?_
 unfold Oper.wp execOp
 simp only [ho, hx, hy, Sem.run_bind, hr, Result.andThen_ok, Sem.run_pure]
 exact hK _ _ h
theorem setCells_size (b : Nat) : ∀ (vs : List Value) (o : Nat) (w : World), (w.setCells b o vs).heap.size = w.heap.size
 | [], _, _ => rfl
 | v :: r, o, w => by rw [World.setCells, setCells_size b r (o + 1)]; simp
theorem ztyStr : TY Try.prog 9 [(Value.string ⟨#[]⟩)] (Value.string ⟨#[]⟩) := TY.one' Try.underlying9 rfl (by kernel_rfl) rfl
theorem recStr_walk (a b c : Value) (w : World) : CallsD Try.prog 167 #[a, b, c] .returning w fun e u' w' => e = .returned (.tuple #[]) ∧ u' = .returning ∧ w' = w := by
 refine callsD_of_wpS Try.func167 rfl fun c₀ cs hu => ?_
 apply wpS_seq
 apply wpS_region
 simp [wpOpsS, go_sem, recoverD, hu, Try.ntmps167]
 refine wpS_cond (t := false) rfl ?_
 refine wpS_of_wp (wp_skip ?_)
 cases c₀
 simp_all [bodyPostS, results, Try.results167]
theorem readStr_walk {α : Type} (p : Parser α) (rep : Nat → World → Value → α → Prop) (v : Value) (xs : List Nat) (w : World) (M : Nat) (most : Int) (hM : w.cell? ⟨M, 0, none⟩ = some (.int .i64 most)) (hv : Sl w 1 v xs.length (bv xs)) (hl : xs.length ≤ 1099511627776) (hb : ∀ b ∈ xs, b < 256) (hvb : Lo v w.heap.size)
   (hF : ∀ (w : World) (R L : Nat) (s : St), RSt 201 L w R s → w.cell? ⟨M, 0, none⟩ = some (.int .i64 most) → Calls Try.prog 96 #[.pointer (some ⟨R, 0, none⟩), .pointer (some ⟨M, 0, none⟩)] w (RdPost 201 L w R p s (rep w.heap.size)))
   (hTY : ∀ (L : Nat) (w : World) (v : Value) (x : α), rep L w v x → ∃ cs, TY Try.prog 9 cs v ∧ cs.length = 1)
   (hmono : ∀ (L : Nat) (w w' : World) (v : Value) (x : α), rep L w v x → w.heap.size ≤ w'.heap.size → (∀ k, L ≤ k → k < w.heap.size → w'.heap[k]? = w.heap[k]?) → ∀ L', L' ≤ L → rep L' w' v x) :
   Calls Try.prog 95 #[v, .func (.func 96) #[] #[.pointer (some ⟨M, 0, none⟩)]] w (ReadPost p xs (Value.string ⟨#[]⟩) rep w) := by
 obtain ⟨ao, cap, rfl, hnc, hcm⟩ := hv.shape
 have HF := hid hF
 have HTY := hid hTY
 have HMO := hid hmono
 clear hF hTY hmono
 have hmf : ∀ (fn : Fn) (first cap : Array Value) (w : World), (Instr.makeFunc fn first cap).run Try.prog w = .ok (.func fn first cap) w := fun _ _ _ _ => rfl
 go_enter_defers Try.func95, Try.ntmps95
 go_wp2_with fail
 generalize hW : (((w.alloc (Obj.cells #[Value.string ⟨#[]⟩] 9)).alloc (Obj.cells #[Value.slice none 0 0] 22)).alloc (Obj.cells #[Value.int IntKind.i64 0] 25)).alloc (Obj.cells #[Value.slice ao xs.length cap, Value.int IntKind.i64 0] 201) = W
 have hWg : w.grownBy W none := by rw [← hW]; exact grown_trans (grown_trans (grown_trans (World.grownBy_alloc _ _ _) (World.grownBy_alloc _ _ _)) (World.grownBy_alloc _ _ _)) (World.grownBy_alloc _ _ _)
 have h0 : W.heap[w.heap.size]? = some (.cells #[Value.string ⟨#[]⟩] 9 (0, 0)) := by rw [← hW, heap_past (by simp <;> omega), heap_past (by simp <;> omega), heap_past (by simp <;> omega), heap_at rfl]
 have h1 : W.heap[w.heap.size + 1]? = some (.cells #[.slice none 0 0] 22 (0, 0)) := by rw [← hW, heap_past (by simp <;> omega), heap_past (by simp <;> omega), heap_at (by simp <;> omega)]
 have h2 : W.heap[w.heap.size + 1 + 1]? = some (.cells #[.int .i64 0] 25 (0, 0)) := by rw [← hW, heap_past (by simp <;> omega), heap_at (by simp <;> omega)]
 have h3 : W.heap[w.heap.size + 1 + 1 + 1]? = some (.cells #[.slice ao xs.length cap, .int .i64 0] 201 (0, 0)) := by rw [← hW, heap_at (by simp <;> omega)]
 have hsz : W.heap.size = w.heap.size + 4 := by rw [← hW]; simp
 clear hW
 have hst : RSt 201 w.heap.size W (w.heap.size + 1 + 1 + 1) (.ok xs) := ⟨_, xs, ⟨rfl, h3⟩, hv.kept hWg (by cases h : (Value.slice ao xs.length cap).ownBlock <;> simp), ⟨hvb, by omega⟩, hb, hl⟩
 refine (HF.out _ _ _ _ hst (by first | exact (hWg.cell hM (by simp)))).mono ?_
 rintro e w1 ⟨v1, x, s', rfl, hrep, hg1, hst1, hrel⟩
 obtain ⟨cs, hT, hcs⟩ := HTY.out _ _ _ _ hrep
 have k0 := row_of hg1 h0 (by simp <;> omega)
 have k1 := row_of hg1 h1 (by simp <;> omega)
 have k2 := row_of hg1 h2 (by simp <;> omega)
 have hsz1 := hg1.size
 clear h0 h1 h2 h3 hst
 have K0 := hid k0
 have K1 := hid k1
 have K2 := hid k2
 have HS := hid hst1
 obtain ⟨e1, hgz, hz0⟩ := hT.stores k0 (by rw [hcs]; rfl)
 have hlenz : (w1.setCells w.heap.size 0 cs).heap.size = w1.heap.size := setCells_size _ _ _ _
 have hz1 := row_of hgz K1.out (by simp)
 have hz2 := row_of hgz K2.out (by simp <;> omega)
 have hz3 : ∀ (k : Nat) (o : Obj), w1.heap[k]? = some o → k ≠ w.heap.size → (w1.setCells w.heap.size 0 cs).heap[k]? = some o := fun k o h hk => row_of hgz h (by simp <;> omega)
 generalize w1.setCells w.heap.size 0 cs = wz at *
 have E1 := hid e1
 have HT := hid hT
 have HR := hid hrep
 clear k0 k1 k2 hT hrep e1
 cases s' with
 | error er =>
   obtain ⟨v3, l3, ⟨he, he2, hrow⟩, _⟩ := hst1
   have z3 := hz3 _ _ hrow (by omega)
   obtain ⟨r0, r1, _, _⟩ := row2 z3
   have hne : ((er : Int) != 0) = true := by simp; omega
   have Z0 := hid hz0
   have Z1 := hid hz1
   have Z2 := hid hz2
   have Z3 := hid z3
   clear hrow hz0 hz1 hz2 hz3 z3
   go_wp2_with (refine wpList_store_ty rfl (.tmp 4) (.tmp 15) rfl rfl rfl E1.out ?_)
   refine read6 mixed false 9 _ _ _ _ 6 w.heap.size (w.heap.size + 1 + 1 + 1) 0 (Value.string ⟨#[]⟩) er [(Value.string ⟨#[]⟩)] _ _ _ rfl rfl rfl rfl rfl rfl (fun h => (by cases h)) ztyStr tyS tyE ⟨_, by simp [hcs], Z0.out⟩ ⟨_, Z1.out⟩ ⟨_, Z2.out⟩ (row2 Z3.out).2.1 (by omega) (fun w => field1 w _) ?_
   intro a w2 hres hd hs hl q0 q1 q2
   go_wp2
   obtain ⟨tmps, ds⟩ := a
   simp only at hd hs hl
   subst hd
   refine leaves_cons (f := 167) (args := #[.pointer (some ⟨w.heap.size, 0, none⟩), .pointer (some ⟨w.heap.size + 1, 0, none⟩), .pointer (some ⟨w.heap.size + 1 + 1, 0, none⟩)]) (by simp) (by simp [go_sem]) ?_
   refine (recStr_walk _ _ _ _).mono ?_
   rintro e u' w'' ⟨rfl, rfl, rfl⟩
   have hrs := Res3.grown hWg hg1 hgz hres (by omega) rfl rfl
   exact ⟨_, results3 rfl (hl 4 (by decide)) (hl 5 (by decide)) (hl 6 (by decide)) ztyStr (tyS none 0 0) (tyE er) q0 q1 q2, ReadPost.mkErr hrs hrel.err rfl he⟩
 | ok l' =>
   obtain ⟨v3, l3, ⟨rfl, hrow⟩, hsl, hvl, hlb, hll⟩ := hst1
   have z3 := hz3 _ _ hrow (by omega)
   obtain ⟨r0, r1, _, _⟩ := row2 z3
   have Z0 := hid hz0
   have Z1 := hid hz1
   have Z2 := hid hz2
   have Z3 := hid z3
   clear hrow hz0 hz1 hz2 hz3 z3
   go_wp2_with (refine wpList_store_ty rfl (.tmp 4) (.tmp 15) rfl rfl rfl E1.out ?_)
   refine read7 mixed 9 _ _ _ _ 165 7 w.heap.size (w.heap.size + 1 + 1 + 1) v1 v3 cs l' _ _ _ rfl rfl rfl rfl rfl HT.out tyS tyE Z0.out ⟨_, Z1.out⟩ ⟨_, Z2.out⟩ (row2 Z3.out).1 (by omega) (hsl.kept hgz (.inr (hvl.1.ne (Nat.le_refl _)))) hvl.1 (fun w => field0 w _) enterClone (fun w v hv => clone_walk v l' w hv hll) ?_
   intro a w2 hres hd hs hl q0 q1 q2
   go_wp2
   obtain ⟨tmps, ds⟩ := a
   simp only at hd hs hl
   subst hd
   refine leaves_cons (f := 167) (args := #[.pointer (some ⟨w.heap.size, 0, none⟩), .pointer (some ⟨w.heap.size + 1, 0, none⟩), .pointer (some ⟨w.heap.size + 1 + 1, 0, none⟩)]) (by simp) (by simp [go_sem]) ?_
   refine (recStr_walk _ _ _ _).mono ?_
   rintro e u' w'' ⟨rfl, rfl, rfl⟩
   have hrs := Res3.grown hWg hg1 hgz hres (by omega) rfl rfl
   obtain ⟨v', q1, qs, qk⟩ := q1
   obtain ⟨ao', cap', rfl, _, _⟩ := qs.shape
   have hrep' : rep w.heap.size w'' v1 x := HMO.out _ _ _ _ _ HR.out (by have := hgz.size; have := hres.size; omega) (fun k hk1 hk2 => (hres.block k (by have := hgz.size; omega) (by omega) (by omega) (by omega)).trans (hgz.block k hk2 (by simp <;> omega))) _ (by omega)
   exact ⟨_, results3 rfl (hl 4 (by decide)) (hl 5 (by decide)) (hl 6 (by decide)) HT.out (tyS _ _ _) (tyE 0) q0 q1 q2, ReadPost.mkOk hrs hrel.ok rfl hrep' qs fun k hk => by have := qk k hk; have := hgz.size; omega⟩
end
/-! ## RdTVers -/
section
open Go.RowKit
theorem ztyVers : TY Try.prog 42 [(Value.slice none 0 0)] (Value.slice none 0 0) := TY.one' Try.underlying42 rfl (by kernel_rfl) rfl
theorem recVers_walk (a b c : Value) (w : World) : CallsD Try.prog 170 #[a, b, c] .returning w fun e u' w' => e = .returned (.tuple #[]) ∧ u' = .returning ∧ w' = w := by
 refine callsD_of_wpS Try.func170 rfl fun c₀ cs hu => ?_
 apply wpS_seq
 apply wpS_region
 simp [wpOpsS, go_sem, recoverD, hu, Try.ntmps170]
 refine wpS_cond (t := false) rfl ?_
 refine wpS_of_wp (wp_skip ?_)
 cases c₀
 simp_all [bodyPostS, results, Try.results170]
theorem readVers_walk {α : Type} (p : Parser α) (rep : Nat → World → Value → α → Prop) (v : Value) (xs : List Nat) (w : World) (hv : Sl w 1 v xs.length (bv xs)) (hl : xs.length ≤ 1099511627776) (hb : ∀ b ∈ xs, b < 256) (hvb : Lo v w.heap.size)
   (hF : ∀ (w : World) (R L : Nat) (s : St), RSt 201 L w R s → Calls Try.prog 104 #[.pointer (some ⟨R, 0, none⟩)] w (RdPost 201 L w R p s (rep w.heap.size)))
   (hTY : ∀ (L : Nat) (w : World) (v : Value) (x : α), rep L w v x → ∃ cs, TY Try.prog 42 cs v ∧ cs.length = 1)
   (hmono : ∀ (L : Nat) (w w' : World) (v : Value) (x : α), rep L w v x → w.heap.size ≤ w'.heap.size → (∀ k, L ≤ k → k < w.heap.size → w'.heap[k]? = w.heap[k]?) → ∀ L', L' ≤ L → rep L' w' v x) :
   Calls Try.prog 103 #[v, .func (.func 104) #[] #[]] w (ReadPost p xs (Value.slice none 0 0) rep w) := by
 obtain ⟨ao, cap, rfl, hnc, hcm⟩ := hv.shape
 have HF := hid hF
 have HTY := hid hTY
 have HMO := hid hmono
 clear hF hTY hmono
 have hmf : ∀ (fn : Fn) (first cap : Array Value) (w : World), (Instr.makeFunc fn first cap).run Try.prog w = .ok (.func fn first cap) w := fun _ _ _ _ => rfl
 go_enter_defers Try.func103, Try.ntmps103
 go_wp2_with fail
 generalize hW : (((w.alloc (Obj.cells #[Value.slice none 0 0] 42)).alloc (Obj.cells #[Value.slice none 0 0] 22)).alloc (Obj.cells #[Value.int IntKind.i64 0] 25)).alloc (Obj.cells #[Value.slice ao xs.length cap, Value.int IntKind.i64 0] 201) = W
 have hWg : w.grownBy W none := by rw [← hW]; exact grown_trans (grown_trans (grown_trans (World.grownBy_alloc _ _ _) (World.grownBy_alloc _ _ _)) (World.grownBy_alloc _ _ _)) (World.grownBy_alloc _ _ _)
 have h0 : W.heap[w.heap.size]? = some (.cells #[Value.slice none 0 0] 42 (0, 0)) := by rw [← hW, heap_past (by simp <;> omega), heap_past (by simp <;> omega), heap_past (by simp <;> omega), heap_at rfl]
 have h1 : W.heap[w.heap.size + 1]? = some (.cells #[.slice none 0 0] 22 (0, 0)) := by rw [← hW, heap_past (by simp <;> omega), heap_past (by simp <;> omega), heap_at (by simp <;> omega)]
 have h2 : W.heap[w.heap.size + 1 + 1]? = some (.cells #[.int .i64 0] 25 (0, 0)) := by rw [← hW, heap_past (by simp <;> omega), heap_at (by simp <;> omega)]
 have h3 : W.heap[w.heap.size + 1 + 1 + 1]? = some (.cells #[.slice ao xs.length cap, .int .i64 0] 201 (0, 0)) := by rw [← hW, heap_at (by simp <;> omega)]
 have hsz : W.heap.size = w.heap.size + 4 := by rw [← hW]; simp
 clear hW
 have hst : RSt 201 w.heap.size W (w.heap.size + 1 + 1 + 1) (.ok xs) := ⟨_, xs, ⟨rfl, h3⟩, hv.kept hWg (by cases h : (Value.slice ao xs.length cap).ownBlock <;> simp), ⟨hvb, by omega⟩, hb, hl⟩
 refine (HF.out _ _ _ _ hst).mono ?_
 rintro e w1 ⟨v1, x, s', rfl, hrep, hg1, hst1, hrel⟩
 obtain ⟨cs, hT, hcs⟩ := HTY.out _ _ _ _ hrep
 have k0 := row_of hg1 h0 (by simp <;> omega)
 have k1 := row_of hg1 h1 (by simp <;> omega)
 have k2 := row_of hg1 h2 (by simp <;> omega)
 have hsz1 := hg1.size
 clear h0 h1 h2 h3 hst
 have K0 := hid k0
 have K1 := hid k1
 have K2 := hid k2
 have HS := hid hst1
 obtain ⟨e1, hgz, hz0⟩ := hT.stores k0 (by rw [hcs]; rfl)
 have hlenz : (w1.setCells w.heap.size 0 cs).heap.size = w1.heap.size := setCells_size _ _ _ _
 have hz1 := row_of hgz K1.out (by simp)
 have hz2 := row_of hgz K2.out (by simp <;> omega)
 have hz3 : ∀ (k : Nat) (o : Obj), w1.heap[k]? = some o → k ≠ w.heap.size → (w1.setCells w.heap.size 0 cs).heap[k]? = some o := fun k o h hk => row_of hgz h (by simp <;> omega)
 generalize w1.setCells w.heap.size 0 cs = wz at *
 have E1 := hid e1
 have HT := hid hT
 have HR := hid hrep
 clear k0 k1 k2 hT hrep e1
 cases s' with
 | error er =>
   obtain ⟨v3, l3, ⟨he, he2, hrow⟩, _⟩ := hst1
   have z3 := hz3 _ _ hrow (by omega)
   obtain ⟨r0, r1, _, _⟩ := row2 z3
   have hne : ((er : Int) != 0) = true := by simp; omega
   have Z0 := hid hz0
   have Z1 := hid hz1
   have Z2 := hid hz2
   have Z3 := hid z3
   clear hrow hz0 hz1 hz2 hz3 z3
   go_wp2_with (refine wpList_store_ty rfl (.tmp 4) (.tmp 15) rfl rfl rfl E1.out ?_)
   refine read6 mixed false 42 _ _ _ _ 6 w.heap.size (w.heap.size + 1 + 1 + 1) 0 (Value.slice none 0 0) er [(Value.slice none 0 0)] _ _ _ rfl rfl rfl rfl rfl rfl (fun h => (by cases h)) ztyVers tyS tyE ⟨_, by simp [hcs], Z0.out⟩ ⟨_, Z1.out⟩ ⟨_, Z2.out⟩ (row2 Z3.out).2.1 (by omega) (fun w => field1 w _) ?_
   intro a w2 hres hd hs hl q0 q1 q2
   go_wp2
   obtain ⟨tmps, ds⟩ := a
   simp only at hd hs hl
   subst hd
   refine leaves_cons (f := 170) (args := #[.pointer (some ⟨w.heap.size, 0, none⟩), .pointer (some ⟨w.heap.size + 1, 0, none⟩), .pointer (some ⟨w.heap.size + 1 + 1, 0, none⟩)]) (by simp) (by simp [go_sem]) ?_
   refine (recVers_walk _ _ _ _).mono ?_
   rintro e u' w'' ⟨rfl, rfl, rfl⟩
   have hrs := Res3.grown hWg hg1 hgz hres (by omega) rfl rfl
   exact ⟨_, results3 rfl (hl 4 (by decide)) (hl 5 (by decide)) (hl 6 (by decide)) ztyVers (tyS none 0 0) (tyE er) q0 q1 q2, ReadPost.mkErr hrs hrel.err rfl he⟩
 | ok l' =>
   obtain ⟨v3, l3, ⟨rfl, hrow⟩, hsl, hvl, hlb, hll⟩ := hst1
   have z3 := hz3 _ _ hrow (by omega)
   obtain ⟨r0, r1, _, _⟩ := row2 z3
   have Z0 := hid hz0
   have Z1 := hid hz1
   have Z2 := hid hz2
   have Z3 := hid z3
   clear hrow hz0 hz1 hz2 hz3 z3
   go_wp2_with (refine wpList_store_ty rfl (.tmp 4) (.tmp 15) rfl rfl rfl E1.out ?_)
   refine read7 mixed 42 _ _ _ _ 165 7 w.heap.size (w.heap.size + 1 + 1 + 1) v1 v3 cs l' _ _ _ rfl rfl rfl rfl rfl HT.out tyS tyE Z0.out ⟨_, Z1.out⟩ ⟨_, Z2.out⟩ (row2 Z3.out).1 (by omega) (hsl.kept hgz (.inr (hvl.1.ne (Nat.le_refl _)))) hvl.1 (fun w => field0 w _) enterClone (fun w v hv => clone_walk v l' w hv hll) ?_
   intro a w2 hres hd hs hl q0 q1 q2
   go_wp2
   obtain ⟨tmps, ds⟩ := a
   simp only at hd hs hl
   subst hd
   refine leaves_cons (f := 170) (args := #[.pointer (some ⟨w.heap.size, 0, none⟩), .pointer (some ⟨w.heap.size + 1, 0, none⟩), .pointer (some ⟨w.heap.size + 1 + 1, 0, none⟩)]) (by simp) (by simp [go_sem]) ?_
   refine (recVers_walk _ _ _ _).mono ?_
   rintro e u' w'' ⟨rfl, rfl, rfl⟩
   have hrs := Res3.grown hWg hg1 hgz hres (by omega) rfl rfl
   obtain ⟨v', q1, qs, qk⟩ := q1
   obtain ⟨ao', cap', rfl, _, _⟩ := qs.shape
   have hrep' : rep w.heap.size w'' v1 x := HMO.out _ _ _ _ _ HR.out (by have := hgz.size; have := hres.size; omega) (fun k hk1 hk2 => (hres.block k (by have := hgz.size; omega) (by omega) (by omega) (by omega)).trans (hgz.block k hk2 (by simp <;> omega))) _ (by omega)
   exact ⟨_, results3 rfl (hl 4 (by decide)) (hl 5 (by decide)) (hl 6 (by decide)) HT.out (tyS _ _ _) (tyE 0) q0 q1 q2, ReadPost.mkOk hrs hrel.ok rfl hrep' qs fun k hk => by have := qk k hk; have := hgz.size; omega⟩
end
/-! ## RdTSrcs -/
section
open Go.RowKit
theorem ztySrcs : TY Try.prog 43 [(Value.slice none 0 0)] (Value.slice none 0 0) := TY.one' Try.underlying43 rfl (by kernel_rfl) rfl
theorem recSrcs_walk (a b c : Value) (w : World) : CallsD Try.prog 174 #[a, b, c] .returning w fun e u' w' => e = .returned (.tuple #[]) ∧ u' = .returning ∧ w' = w := by
 refine callsD_of_wpS Try.func174 rfl fun c₀ cs hu => ?_
 apply wpS_seq
 apply wpS_region
 simp [wpOpsS, go_sem, recoverD, hu, Try.ntmps174]
 refine wpS_cond (t := false) rfl ?_
 refine wpS_of_wp (wp_skip ?_)
 cases c₀
 simp_all [bodyPostS, results, Try.results174]
theorem readSrcs_walk {α : Type} (p : Parser α) (rep : Nat → World → Value → α → Prop) (v : Value) (xs : List Nat) (w : World) (hv : Sl w 1 v xs.length (bv xs)) (hl : xs.length ≤ 1099511627776) (hb : ∀ b ∈ xs, b < 256) (hvb : Lo v w.heap.size)
   (hF : ∀ (w : World) (R L : Nat) (s : St), RSt 201 L w R s → Calls Try.prog 108 #[.pointer (some ⟨R, 0, none⟩)] w (RdPost 201 L w R p s (rep w.heap.size)))
   (hTY : ∀ (L : Nat) (w : World) (v : Value) (x : α), rep L w v x → ∃ cs, TY Try.prog 43 cs v ∧ cs.length = 1)
   (hmono : ∀ (L : Nat) (w w' : World) (v : Value) (x : α), rep L w v x → w.heap.size ≤ w'.heap.size → (∀ k, L ≤ k → k < w.heap.size → w'.heap[k]? = w.heap[k]?) → ∀ L', L' ≤ L → rep L' w' v x) :
   Calls Try.prog 107 #[v, .func (.func 108) #[] #[]] w (ReadPost p xs (Value.slice none 0 0) rep w) := by
 obtain ⟨ao, cap, rfl, hnc, hcm⟩ := hv.shape
 have HF := hid hF
 have HTY := hid hTY
 have HMO := hid hmono
 clear hF hTY hmono
 have hmf : ∀ (fn : Fn) (first cap : Array Value) (w : World), (Instr.makeFunc fn first cap).run Try.prog w = .ok (.func fn first cap) w := fun _ _ _ _ => rfl
 go_enter_defers Try.func107, Try.ntmps107
 go_wp2_with fail
 generalize hW : (((w.alloc (Obj.cells #[Value.slice none 0 0] 43)).alloc (Obj.cells #[Value.slice none 0 0] 22)).alloc (Obj.cells #[Value.int IntKind.i64 0] 25)).alloc (Obj.cells #[Value.slice ao xs.length cap, Value.int IntKind.i64 0] 201) = W
 have hWg : w.grownBy W none := by rw [← hW]; exact grown_trans (grown_trans (grown_trans (World.grownBy_alloc _ _ _) (World.grownBy_alloc _ _ _)) (World.grownBy_alloc _ _ _)) (World.grownBy_alloc _ _ _)
 have h0 : W.heap[w.heap.size]? = some (.cells #[Value.slice none 0 0] 43 (0, 0)) := by rw [← hW, heap_past (by simp <;> omega), heap_past (by simp <;> omega), heap_past (by simp <;> omega), heap_at rfl]
 have h1 : W.heap[w.heap.size + 1]? = some (.cells #[.slice none 0 0] 22 (0, 0)) := by rw [← hW, heap_past (by simp <;> omega), heap_past (by simp <;> omega), heap_at (by simp <;> omega)]
 have h2 : W.heap[w.heap.size + 1 + 1]? = some (.cells #[.int .i64 0] 25 (0, 0)) := by rw [← hW, heap_past (by simp <;> omega), heap_at (by simp <;> omega)]
 have h3 : W.heap[w.heap.size + 1 + 1 + 1]? = some (.cells #[.slice ao xs.length cap, .int .i64 0] 201 (0, 0)) := by rw [← hW, heap_at (by simp <;> omega)]
 have hsz : W.heap.size = w.heap.size + 4 := by rw [← hW]; simp
 clear hW
 have hst : RSt 201 w.heap.size W (w.heap.size + 1 + 1 + 1) (.ok xs) := ⟨_, xs, ⟨rfl, h3⟩, hv.kept hWg (by cases h : (Value.slice ao xs.length cap).ownBlock <;> simp), ⟨hvb, by omega⟩, hb, hl⟩
 refine (HF.out _ _ _ _ hst).mono ?_
 rintro e w1 ⟨v1, x, s', rfl, hrep, hg1, hst1, hrel⟩
 obtain ⟨cs, hT, hcs⟩ := HTY.out _ _ _ _ hrep
 have k0 := row_of hg1 h0 (by simp <;> omega)
 have k1 := row_of hg1 h1 (by simp <;> omega)
 have k2 := row_of hg1 h2 (by simp <;> omega)
 have hsz1 := hg1.size
 clear h0 h1 h2 h3 hst
 have K0 := hid k0
 have K1 := hid k1
 have K2 := hid k2
 have HS := hid hst1
 obtain ⟨e1, hgz, hz0⟩ := hT.stores k0 (by rw [hcs]; rfl)
 have hlenz : (w1.setCells w.heap.size 0 cs).heap.size = w1.heap.size := setCells_size _ _ _ _
 have hz1 := row_of hgz K1.out (by simp)
 have hz2 := row_of hgz K2.out (by simp <;> omega)
 have hz3 : ∀ (k : Nat) (o : Obj), w1.heap[k]? = some o → k ≠ w.heap.size → (w1.setCells w.heap.size 0 cs).heap[k]? = some o := fun k o h hk => row_of hgz h (by simp <;> omega)
 generalize w1.setCells w.heap.size 0 cs = wz at *
 have E1 := hid e1
 have HT := hid hT
 have HR := hid hrep
 clear k0 k1 k2 hT hrep e1
 cases s' with
 | error er =>
   obtain ⟨v3, l3, ⟨he, he2, hrow⟩, _⟩ := hst1
   have z3 := hz3 _ _ hrow (by omega)
   obtain ⟨r0, r1, _, _⟩ := row2 z3
   have hne : ((er : Int) != 0) = true := by simp; omega
   have Z0 := hid hz0
   have Z1 := hid hz1
   have Z2 := hid hz2
   have Z3 := hid z3
   clear hrow hz0 hz1 hz2 hz3 z3
   go_wp2_with (refine wpList_store_ty rfl (.tmp 4) (.tmp 15) rfl rfl rfl E1.out ?_)
   refine read6 mixed false 43 _ _ _ _ 6 w.heap.size (w.heap.size + 1 + 1 + 1) 0 (Value.slice none 0 0) er [(Value.slice none 0 0)] _ _ _ rfl rfl rfl rfl rfl rfl (fun h => (by cases h)) ztySrcs tyS tyE ⟨_, by simp [hcs], Z0.out⟩ ⟨_, Z1.out⟩ ⟨_, Z2.out⟩ (row2 Z3.out).2.1 (by omega) (fun w => field1 w _) ?_
   intro a w2 hres hd hs hl q0 q1 q2
   go_wp2
   obtain ⟨tmps, ds⟩ := a
   simp only at hd hs hl
   subst hd
   refine leaves_cons (f := 174) (args := #[.pointer (some ⟨w.heap.size, 0, none⟩), .pointer (some ⟨w.heap.size + 1, 0, none⟩), .pointer (some ⟨w.heap.size + 1 + 1, 0, none⟩)]) (by simp) (by simp [go_sem]) ?_
   refine (recSrcs_walk _ _ _ _).mono ?_
   rintro e u' w'' ⟨rfl, rfl, rfl⟩
   have hrs := Res3.grown hWg hg1 hgz hres (by omega) rfl rfl
   exact ⟨_, results3 rfl (hl 4 (by decide)) (hl 5 (by decide)) (hl 6 (by decide)) ztySrcs (tyS none 0 0) (tyE er) q0 q1 q2, ReadPost.mkErr hrs hrel.err rfl he⟩
 | ok l' =>
   obtain ⟨v3, l3, ⟨rfl, hrow⟩, hsl, hvl, hlb, hll⟩ := hst1
   have z3 := hz3 _ _ hrow (by omega)
   obtain ⟨r0, r1, _, _⟩ := row2 z3
   have Z0 := hid hz0
   have Z1 := hid hz1
   have Z2 := hid hz2
   have Z3 := hid z3
   clear hrow hz0 hz1 hz2 hz3 z3
   go_wp2_with (refine wpList_store_ty rfl (.tmp 4) (.tmp 15) rfl rfl rfl E1.out ?_)
   refine read7 mixed 43 _ _ _ _ 165 7 w.heap.size (w.heap.size + 1 + 1 + 1) v1 v3 cs l' _ _ _ rfl rfl rfl rfl rfl HT.out tyS tyE Z0.out ⟨_, Z1.out⟩ ⟨_, Z2.out⟩ (row2 Z3.out).1 (by omega) (hsl.kept hgz (.inr (hvl.1.ne (Nat.le_refl _)))) hvl.1 (fun w => field0 w _) enterClone (fun w v hv => clone_walk v l' w hv hll) ?_
   intro a w2 hres hd hs hl q0 q1 q2
   go_wp2
   obtain ⟨tmps, ds⟩ := a
   simp only at hd hs hl
   subst hd
   refine leaves_cons (f := 174) (args := #[.pointer (some ⟨w.heap.size, 0, none⟩), .pointer (some ⟨w.heap.size + 1, 0, none⟩), .pointer (some ⟨w.heap.size + 1 + 1, 0, none⟩)]) (by simp) (by simp [go_sem]) ?_
   refine (recSrcs_walk _ _ _ _).mono ?_
   rintro e u' w'' ⟨rfl, rfl, rfl⟩
   have hrs := Res3.grown hWg hg1 hgz hres (by omega) rfl rfl
   obtain ⟨v', q1, qs, qk⟩ := q1
   obtain ⟨ao', cap', rfl, _, _⟩ := qs.shape
   have hrep' : rep w.heap.size w'' v1 x := HMO.out _ _ _ _ _ HR.out (by have := hgz.size; have := hres.size; omega) (fun k hk1 hk2 => (hres.block k (by have := hgz.size; omega) (by omega) (by omega) (by omega)).trans (hgz.block k hk2 (by simp <;> omega))) _ (by omega)
   exact ⟨_, results3 rfl (hl 4 (by decide)) (hl 5 (by decide)) (hl 6 (by decide)) HT.out (tyS _ _ _) (tyE 0) q0 q1 q2, ReadPost.mkOk hrs hrel.ok rfl hrep' qs fun k hk => by have := qk k hk; have := hgz.size; omega⟩
end
/-! ## RdTRow -/
section
open Go.RowKit
theorem ztyRow : TY Try.prog 60 [(Value.slice none 0 0)] (Value.slice none 0 0) := TY.one' Try.underlying60 rfl (by kernel_rfl) rfl
theorem recRow_walk (a b c : Value) (w : World) : CallsD Try.prog 177 #[a, b, c] .returning w fun e u' w' => e = .returned (.tuple #[]) ∧ u' = .returning ∧ w' = w := by
 refine callsD_of_wpS Try.func177 rfl fun c₀ cs hu => ?_
 apply wpS_seq
 apply wpS_region
 simp [wpOpsS, go_sem, recoverD, hu, Try.ntmps177]
 refine wpS_cond (t := false) rfl ?_
 refine wpS_of_wp (wp_skip ?_)
 cases c₀
 simp_all [bodyPostS, results, Try.results177]
theorem readRow_walk {α : Type} (p : Parser α) (rep : Nat → World → Value → α → Prop) (v : Value) (xs : List Nat) (w : World) (hv : Sl w 1 v xs.length (bv xs)) (hl : xs.length ≤ 1099511627776) (hb : ∀ b ∈ xs, b < 256) (hvb : Lo v w.heap.size)
   (hF : ∀ (w : World) (R L : Nat) (s : St), RSt 201 L w R s → Calls Try.prog 115 #[.pointer (some ⟨R, 0, none⟩)] w (RdPost 201 L w R p s (rep w.heap.size)))
   (hTY : ∀ (L : Nat) (w : World) (v : Value) (x : α), rep L w v x → ∃ cs, TY Try.prog 60 cs v ∧ cs.length = 1)
   (hmono : ∀ (L : Nat) (w w' : World) (v : Value) (x : α), rep L w v x → w.heap.size ≤ w'.heap.size → (∀ k, L ≤ k → k < w.heap.size → w'.heap[k]? = w.heap[k]?) → ∀ L', L' ≤ L → rep L' w' v x) :
   Calls Try.prog 114 #[v, .func (.func 115) #[] #[]] w (ReadPost p xs (Value.slice none 0 0) rep w) := by
 obtain ⟨ao, cap, rfl, hnc, hcm⟩ := hv.shape
 have HF := hid hF
 have HTY := hid hTY
 have HMO := hid hmono
 clear hF hTY hmono
 have hmf : ∀ (fn : Fn) (first cap : Array Value) (w : World), (Instr.makeFunc fn first cap).run Try.prog w = .ok (.func fn first cap) w := fun _ _ _ _ => rfl
 go_enter_defers Try.func114, Try.ntmps114
 go_wp2_with fail
 generalize hW : (((w.alloc (Obj.cells #[Value.slice none 0 0] 60)).alloc (Obj.cells #[Value.slice none 0 0] 22)).alloc (Obj.cells #[Value.int IntKind.i64 0] 25)).alloc (Obj.cells #[Value.slice ao xs.length cap, Value.int IntKind.i64 0] 201) = W
 have hWg : w.grownBy W none := by rw [← hW]; exact grown_trans (grown_trans (grown_trans (World.grownBy_alloc _ _ _) (World.grownBy_alloc _ _ _)) (World.grownBy_alloc _ _ _)) (World.grownBy_alloc _ _ _)
 have h0 : W.heap[w.heap.size]? = some (.cells #[Value.slice none 0 0] 60 (0, 0)) := by rw [← hW, heap_past (by simp <;> omega), heap_past (by simp <;> omega), heap_past (by simp <;> omega), heap_at rfl]
 have h1 : W.heap[w.heap.size + 1]? = some (.cells #[.slice none 0 0] 22 (0, 0)) := by rw [← hW, heap_past (by simp <;> omega), heap_past (by simp <;> omega), heap_at (by simp <;> omega)]
 have h2 : W.heap[w.heap.size + 1 + 1]? = some (.cells #[.int .i64 0] 25 (0, 0)) := by rw [← hW, heap_past (by simp <;> omega), heap_at (by simp <;> omega)]
 have h3 : W.heap[w.heap.size + 1 + 1 + 1]? = some (.cells #[.slice ao xs.length cap, .int .i64 0] 201 (0, 0)) := by rw [← hW, heap_at (by simp <;> omega)]
 have hsz : W.heap.size = w.heap.size + 4 := by rw [← hW]; simp
 clear hW
 have hst : RSt 201 w.heap.size W (w.heap.size + 1 + 1 + 1) (.ok xs) := ⟨_, xs, ⟨rfl, h3⟩, hv.kept hWg (by cases h : (Value.slice ao xs.length cap).ownBlock <;> simp), ⟨hvb, by omega⟩, hb, hl⟩
 refine (HF.out _ _ _ _ hst).mono ?_
 rintro e w1 ⟨v1, x, s', rfl, hrep, hg1, hst1, hrel⟩
 obtain ⟨cs, hT, hcs⟩ := HTY.out _ _ _ _ hrep
 have k0 := row_of hg1 h0 (by simp <;> omega)
 have k1 := row_of hg1 h1 (by simp <;> omega)
 have k2 := row_of hg1 h2 (by simp <;> omega)
 have hsz1 := hg1.size
 clear h0 h1 h2 h3 hst
 have K0 := hid k0
 have K1 := hid k1
 have K2 := hid k2
 have HS := hid hst1
 obtain ⟨e1, hgz, hz0⟩ := hT.stores k0 (by rw [hcs]; rfl)
 have hlenz : (w1.setCells w.heap.size 0 cs).heap.size = w1.heap.size := setCells_size _ _ _ _
 have hz1 := row_of hgz K1.out (by simp)
 have hz2 := row_of hgz K2.out (by simp <;> omega)
 have hz3 : ∀ (k : Nat) (o : Obj), w1.heap[k]? = some o → k ≠ w.heap.size → (w1.setCells w.heap.size 0 cs).heap[k]? = some o := fun k o h hk => row_of hgz h (by simp <;> omega)
 generalize w1.setCells w.heap.size 0 cs = wz at *
 have E1 := hid e1
 have HT := hid hT
 have HR := hid hrep
 clear k0 k1 k2 hT hrep e1
 cases s' with
 | error er =>
   obtain ⟨v3, l3, ⟨he, he2, hrow⟩, _⟩ := hst1
   have z3 := hz3 _ _ hrow (by omega)
   obtain ⟨r0, r1, _, _⟩ := row2 z3
   have hne : ((er : Int) != 0) = true := by simp; omega
   have Z0 := hid hz0
   have Z1 := hid hz1
   have Z2 := hid hz2
   have Z3 := hid z3
   clear hrow hz0 hz1 hz2 hz3 z3
   go_wp2_with (refine wpList_store_ty rfl (.tmp 4) (.tmp 15) rfl rfl rfl E1.out ?_)
   refine read6 mixed false 60 _ _ _ _ 6 w.heap.size (w.heap.size + 1 + 1 + 1) 0 (Value.slice none 0 0) er [(Value.slice none 0 0)] _ _ _ rfl rfl rfl rfl rfl rfl (fun h => (by cases h)) ztyRow tyS tyE ⟨_, by simp [hcs], Z0.out⟩ ⟨_, Z1.out⟩ ⟨_, Z2.out⟩ (row2 Z3.out).2.1 (by omega) (fun w => field1 w _) ?_
   intro a w2 hres hd hs hl q0 q1 q2
   go_wp2
   obtain ⟨tmps, ds⟩ := a
   simp only at hd hs hl
   subst hd
   refine leaves_cons (f := 177) (args := #[.pointer (some ⟨w.heap.size, 0, none⟩), .pointer (some ⟨w.heap.size + 1, 0, none⟩), .pointer (some ⟨w.heap.size + 1 + 1, 0, none⟩)]) (by simp) (by simp [go_sem]) ?_
   refine (recRow_walk _ _ _ _).mono ?_
   rintro e u' w'' ⟨rfl, rfl, rfl⟩
   have hrs := Res3.grown hWg hg1 hgz hres (by omega) rfl rfl
   exact ⟨_, results3 rfl (hl 4 (by decide)) (hl 5 (by decide)) (hl 6 (by decide)) ztyRow (tyS none 0 0) (tyE er) q0 q1 q2, ReadPost.mkErr hrs hrel.err rfl he⟩
 | ok l' =>
   obtain ⟨v3, l3, ⟨rfl, hrow⟩, hsl, hvl, hlb, hll⟩ := hst1
   have z3 := hz3 _ _ hrow (by omega)
   obtain ⟨r0, r1, _, _⟩ := row2 z3
   have Z0 := hid hz0
   have Z1 := hid hz1
   have Z2 := hid hz2
   have Z3 := hid z3
   clear hrow hz0 hz1 hz2 hz3 z3
   go_wp2_with (refine wpList_store_ty rfl (.tmp 4) (.tmp 15) rfl rfl rfl E1.out ?_)
   refine read7 mixed 60 _ _ _ _ 165 7 w.heap.size (w.heap.size + 1 + 1 + 1) v1 v3 cs l' _ _ _ rfl rfl rfl rfl rfl HT.out tyS tyE Z0.out ⟨_, Z1.out⟩ ⟨_, Z2.out⟩ (row2 Z3.out).1 (by omega) (hsl.kept hgz (.inr (hvl.1.ne (Nat.le_refl _)))) hvl.1 (fun w => field0 w _) enterClone (fun w v hv => clone_walk v l' w hv hll) ?_
   intro a w2 hres hd hs hl q0 q1 q2
   go_wp2
   obtain ⟨tmps, ds⟩ := a
   simp only at hd hs hl
   subst hd
   refine leaves_cons (f := 177) (args := #[.pointer (some ⟨w.heap.size, 0, none⟩), .pointer (some ⟨w.heap.size + 1, 0, none⟩), .pointer (some ⟨w.heap.size + 1 + 1, 0, none⟩)]) (by simp) (by simp [go_sem]) ?_
   refine (recRow_walk _ _ _ _).mono ?_
   rintro e u' w'' ⟨rfl, rfl, rfl⟩
   have hrs := Res3.grown hWg hg1 hgz hres (by omega) rfl rfl
   obtain ⟨v', q1, qs, qk⟩ := q1
   obtain ⟨ao', cap', rfl, _, _⟩ := qs.shape
   have hrep' : rep w.heap.size w'' v1 x := HMO.out _ _ _ _ _ HR.out (by have := hgz.size; have := hres.size; omega) (fun k hk1 hk2 => (hres.block k (by have := hgz.size; omega) (by omega) (by omega) (by omega)).trans (hgz.block k hk2 (by simp <;> omega))) _ (by omega)
   exact ⟨_, results3 rfl (hl 4 (by decide)) (hl 5 (by decide)) (hl 6 (by decide)) HT.out (tyS _ _ _) (tyE 0) q0 q1 q2, ReadPost.mkOk hrs hrel.ok rfl hrep' qs fun k hk => by have := qk k hk; have := hgz.size; omega⟩
end
/-! ## RdTBag -/
section
open Go.RowKit
theorem ztyBag : TY Try.prog 76 [(Value.slice none 0 0)] (Value.slice none 0 0) := TY.one' Try.underlying76 rfl (by kernel_rfl) rfl
theorem recBag_walk (a b c : Value) (w : World) : CallsD Try.prog 181 #[a, b, c] .returning w fun e u' w' => e = .returned (.tuple #[]) ∧ u' = .returning ∧ w' = w := by
 refine callsD_of_wpS Try.func181 rfl fun c₀ cs hu => ?_
 apply wpS_seq
 apply wpS_region
 simp [wpOpsS, go_sem, recoverD, hu, Try.ntmps181]
 refine wpS_cond (t := false) rfl ?_
 refine wpS_of_wp (wp_skip ?_)
 cases c₀
 simp_all [bodyPostS, results, Try.results181]
theorem readBag_walk {α : Type} (p : Parser α) (rep : Nat → World → Value → α → Prop) (v : Value) (xs : List Nat) (w : World) (hv : Sl w 1 v xs.length (bv xs)) (hl : xs.length ≤ 1099511627776) (hb : ∀ b ∈ xs, b < 256) (hvb : Lo v w.heap.size)
   (hF : ∀ (w : World) (R L : Nat) (s : St), RSt 201 L w R s → Calls Try.prog 125 #[.pointer (some ⟨R, 0, none⟩)] w (RdPost 201 L w R p s (rep w.heap.size)))
   (hTY : ∀ (L : Nat) (w : World) (v : Value) (x : α), rep L w v x → ∃ cs, TY Try.prog 76 cs v ∧ cs.length = 1)
   (hmono : ∀ (L : Nat) (w w' : World) (v : Value) (x : α), rep L w v x → w.heap.size ≤ w'.heap.size → (∀ k, L ≤ k → k < w.heap.size → w'.heap[k]? = w.heap[k]?) → ∀ L', L' ≤ L → rep L' w' v x) :
   Calls Try.prog 124 #[v, .func (.func 125) #[] #[]] w (ReadPost p xs (Value.slice none 0 0) rep w) := by
 obtain ⟨ao, cap, rfl, hnc, hcm⟩ := hv.shape
 have HF := hid hF
 have HTY := hid hTY
 have HMO := hid hmono
 clear hF hTY hmono
 have hmf : ∀ (fn : Fn) (first cap : Array Value) (w : World), (Instr.makeFunc fn first cap).run Try.prog w = .ok (.func fn first cap) w := fun _ _ _ _ => rfl
 go_enter_defers Try.func124, Try.ntmps124
 go_wp2_with fail
 generalize hW : (((w.alloc (Obj.cells #[Value.slice none 0 0] 76)).alloc (Obj.cells #[Value.slice none 0 0] 22)).alloc (Obj.cells #[Value.int IntKind.i64 0] 25)).alloc (Obj.cells #[Value.slice ao xs.length cap, Value.int IntKind.i64 0] 201) = W
 have hWg : w.grownBy W none := by rw [← hW]; exact grown_trans (grown_trans (grown_trans (World.grownBy_alloc _ _ _) (World.grownBy_alloc _ _ _)) (World.grownBy_alloc _ _ _)) (World.grownBy_alloc _ _ _)
 have h0 : W.heap[w.heap.size]? = some (.cells #[Value.slice none 0 0] 76 (0, 0)) := by rw [← hW, heap_past (by simp <;> omega), heap_past (by simp <;> omega), heap_past (by simp <;> omega), heap_at rfl]
 have h1 : W.heap[w.heap.size + 1]? = some (.cells #[.slice none 0 0] 22 (0, 0)) := by rw [← hW, heap_past (by simp <;> omega), heap_past (by simp <;> omega), heap_at (by simp <;> omega)]
 have h2 : W.heap[w.heap.size + 1 + 1]? = some (.cells #[.int .i64 0] 25 (0, 0)) := by rw [← hW, heap_past (by simp <;> omega), heap_at (by simp <;> omega)]
 have h3 : W.heap[w.heap.size + 1 + 1 + 1]? = some (.cells #[.slice ao xs.length cap, .int .i64 0] 201 (0, 0)) := by rw [← hW, heap_at (by simp <;> omega)]
 have hsz : W.heap.size = w.heap.size + 4 := by rw [← hW]; simp
 clear hW
 have hst : RSt 201 w.heap.size W (w.heap.size + 1 + 1 + 1) (.ok xs) := ⟨_, xs, ⟨rfl, h3⟩, hv.kept hWg (by cases h : (Value.slice ao xs.length cap).ownBlock <;> simp), ⟨hvb, by omega⟩, hb, hl⟩
 refine (HF.out _ _ _ _ hst).mono ?_
 rintro e w1 ⟨v1, x, s', rfl, hrep, hg1, hst1, hrel⟩
 obtain ⟨cs, hT, hcs⟩ := HTY.out _ _ _ _ hrep
 have k0 := row_of hg1 h0 (by simp <;> omega)
 have k1 := row_of hg1 h1 (by simp <;> omega)
 have k2 := row_of hg1 h2 (by simp <;> omega)
 have hsz1 := hg1.size
 clear h0 h1 h2 h3 hst
 have K0 := hid k0
 have K1 := hid k1
 have K2 := hid k2
 have HS := hid hst1
 obtain ⟨e1, hgz, hz0⟩ := hT.stores k0 (by rw [hcs]; rfl)
 have hlenz : (w1.setCells w.heap.size 0 cs).heap.size = w1.heap.size := setCells_size _ _ _ _
 have hz1 := row_of hgz K1.out (by simp)
 have hz2 := row_of hgz K2.out (by simp <;> omega)
 have hz3 : ∀ (k : Nat) (o : Obj), w1.heap[k]? = some o → k ≠ w.heap.size → (w1.setCells w.heap.size 0 cs).heap[k]? = some o := fun k o h hk => row_of hgz h (by simp <;> omega)
 generalize w1.setCells w.heap.size 0 cs = wz at *
 have E1 := hid e1
 have HT := hid hT
 have HR := hid hrep
 clear k0 k1 k2 hT hrep e1
 cases s' with
 | error er =>
   obtain ⟨v3, l3, ⟨he, he2, hrow⟩, _⟩ := hst1
   have z3 := hz3 _ _ hrow (by omega)
   obtain ⟨r0, r1, _, _⟩ := row2 z3
   have hne : ((er : Int) != 0) = true := by simp; omega
   have Z0 := hid hz0
   have Z1 := hid hz1
   have Z2 := hid hz2
   have Z3 := hid z3
   clear hrow hz0 hz1 hz2 hz3 z3
   go_wp2_with (refine wpList_store_ty rfl (.tmp 4) (.tmp 15) rfl rfl rfl E1.out ?_)
   refine read6 mixed false 76 _ _ _ _ 6 w.heap.size (w.heap.size + 1 + 1 + 1) 0 (Value.slice none 0 0) er [(Value.slice none 0 0)] _ _ _ rfl rfl rfl rfl rfl rfl (fun h => (by cases h)) ztyBag tyS tyE ⟨_, by simp [hcs], Z0.out⟩ ⟨_, Z1.out⟩ ⟨_, Z2.out⟩ (row2 Z3.out).2.1 (by omega) (fun w => field1 w _) ?_
   intro a w2 hres hd hs hl q0 q1 q2
   go_wp2
   obtain ⟨tmps, ds⟩ := a
   simp only at hd hs hl
   subst hd
   refine leaves_cons (f := 181) (args := #[.pointer (some ⟨w.heap.size, 0, none⟩), .pointer (some ⟨w.heap.size + 1, 0, none⟩), .pointer (some ⟨w.heap.size + 1 + 1, 0, none⟩)]) (by simp) (by simp [go_sem]) ?_
   refine (recBag_walk _ _ _ _).mono ?_
   rintro e u' w'' ⟨rfl, rfl, rfl⟩
   have hrs := Res3.grown hWg hg1 hgz hres (by omega) rfl rfl
   exact ⟨_, results3 rfl (hl 4 (by decide)) (hl 5 (by decide)) (hl 6 (by decide)) ztyBag (tyS none 0 0) (tyE er) q0 q1 q2, ReadPost.mkErr hrs hrel.err rfl he⟩
 | ok l' =>
   obtain ⟨v3, l3, ⟨rfl, hrow⟩, hsl, hvl, hlb, hll⟩ := hst1
   have z3 := hz3 _ _ hrow (by omega)
   obtain ⟨r0, r1, _, _⟩ := row2 z3
   have Z0 := hid hz0
   have Z1 := hid hz1
   have Z2 := hid hz2
   have Z3 := hid z3
   clear hrow hz0 hz1 hz2 hz3 z3
   go_wp2_with (refine wpList_store_ty rfl (.tmp 4) (.tmp 15) rfl rfl rfl E1.out ?_)
   refine read7 mixed 76 _ _ _ _ 165 7 w.heap.size (w.heap.size + 1 + 1 + 1) v1 v3 cs l' _ _ _ rfl rfl rfl rfl rfl HT.out tyS tyE Z0.out ⟨_, Z1.out⟩ ⟨_, Z2.out⟩ (row2 Z3.out).1 (by omega) (hsl.kept hgz (.inr (hvl.1.ne (Nat.le_refl _)))) hvl.1 (fun w => field0 w _) enterClone (fun w v hv => clone_walk v l' w hv hll) ?_
   intro a w2 hres hd hs hl q0 q1 q2
   go_wp2
   obtain ⟨tmps, ds⟩ := a
   simp only at hd hs hl
   subst hd
   refine leaves_cons (f := 181) (args := #[.pointer (some ⟨w.heap.size, 0, none⟩), .pointer (some ⟨w.heap.size + 1, 0, none⟩), .pointer (some ⟨w.heap.size + 1 + 1, 0, none⟩)]) (by simp) (by simp [go_sem]) ?_
   refine (recBag_walk _ _ _ _).mono ?_
   rintro e u' w'' ⟨rfl, rfl, rfl⟩
   have hrs := Res3.grown hWg hg1 hgz hres (by omega) rfl rfl
   obtain ⟨v', q1, qs, qk⟩ := q1
   obtain ⟨ao', cap', rfl, _, _⟩ := qs.shape
   have hrep' : rep w.heap.size w'' v1 x := HMO.out _ _ _ _ _ HR.out (by have := hgz.size; have := hres.size; omega) (fun k hk1 hk2 => (hres.block k (by have := hgz.size; omega) (by omega) (by omega) (by omega)).trans (hgz.block k hk2 (by simp <;> omega))) _ (by omega)
   exact ⟨_, results3 rfl (hl 4 (by decide)) (hl 5 (by decide)) (hl 6 (by decide)) HT.out (tyS _ _ _) (tyE 0) q0 q1 q2, ReadPost.mkOk hrs hrel.ok rfl hrep' qs fun k hk => by have := qk k hk; have := hgz.size; omega⟩
end
/-! ## RdTDig -/
end Go.Proofs.Ytkeiffccllfkpaa
