/- Read at its types: structs. (merged by merge.py) -/
import Derived.Test.YtkeiffccllfkpaaM4
namespace Go.Proofs.Ytkeiffccllfkpaa

/-! ## RdTVal -/
section
open Go.RowKit

theorem ztyVal : TY Try.prog 67 [(Value.int .i64 0), (Value.int .i64 0), (Value.string ⟨#[]⟩)] (.agg #[Value.int .i64 0, Value.int .i64 0, Value.string ⟨#[]⟩]) := TY.agg Try.underlying67 rfl (by kernel_rfl) (by simp [Value.oneCell'])
set_option maxRecDepth 100000 in
theorem recVal_walk (a b c : Value) (w : World) : CallsD Try.prog 180 #[a, b, c] .returning w fun e u' w' => e = .returned (.tuple #[]) ∧ u' = .returning ∧ w' = w := by
  refine callsD_of_wpS Try.func180 rfl fun c₀ cs hu => ?_
  apply wpS_seq
  apply wpS_region
  simp [wpOpsS, go_sem, recoverD, hu, Try.ntmps180]
  refine wpS_cond (t := false) rfl ?_
  refine wpS_of_wp (wp_skip ?_)
  cases c₀
  simp_all [bodyPostS, results, Try.results180]
set_option maxRecDepth 100000 in
set_option maxHeartbeats 1000000 in
theorem readVal_walk {α : Type} (p : Parser α) (rep : Nat → World → Value → α → Prop) (v : Value) (xs : List Nat) (w : World) (hv : Sl w 1 v xs.length (bv xs)) (hl : xs.length ≤ 1099511627776) (hb : ∀ b ∈ xs, b < 256) (hvb : Lo v w.heap.size)
    (hF : ∀ (w : World) (R L : Nat) (s : St), RSt 201 L w R s → Calls Try.prog 119 #[.pointer (some ⟨R, 0, none⟩)] w (RdPost 201 L w R p s (rep w.heap.size)))
    (hTY : ∀ (L : Nat) (w : World) (v : Value) (x : α), rep L w v x → ∃ cs, TY Try.prog 67 cs v ∧ cs.length = 3)
    (hmono : ∀ (L : Nat) (w w' : World) (v : Value) (x : α), rep L w v x → w.heap.size ≤ w'.heap.size → (∀ k, L ≤ k → k < w.heap.size → w'.heap[k]? = w.heap[k]?) → ∀ L', L' ≤ L → rep L' w' v x) :
    Calls Try.prog 118 #[v, .func (.func 119) #[] #[]] w (ReadPost p xs (.agg #[Value.int .i64 0, Value.int .i64 0, Value.string ⟨#[]⟩]) rep w) := by
  obtain ⟨ao, cap, rfl, hnc, hcm⟩ := hv.shape
  have HF := hid hF
  have HTY := hid hTY
  have HMO := hid hmono
  clear hF hTY hmono
  have hmf : ∀ (fn : Fn) (first cap : Array Value) (w : World), (Instr.makeFunc fn first cap).run Try.prog w = .ok (.func fn first cap) w := fun _ _ _ _ => rfl
  go_enter_defers Try.func118, Try.ntmps118
  go_wp2_with fail
  generalize hW : (((w.alloc (Obj.cells #[Value.int .i64 0, Value.int .i64 0, Value.string ⟨#[]⟩] 67)).alloc (Obj.cells #[Value.slice none 0 0] 22)).alloc (Obj.cells #[Value.int IntKind.i64 0] 25)).alloc (Obj.cells #[Value.slice ao xs.length cap, Value.int IntKind.i64 0] 201) = W
  have hWg : w.grownBy W none := by rw [← hW]; exact grown_trans (grown_trans (grown_trans (World.grownBy_alloc _ _ _) (World.grownBy_alloc _ _ _)) (World.grownBy_alloc _ _ _)) (World.grownBy_alloc _ _ _)
  have h0 : W.heap[w.heap.size]? = some (.cells #[Value.int .i64 0, Value.int .i64 0, Value.string ⟨#[]⟩] 67 (0, 0)) := by rw [← hW, heap_past (by simp <;> omega), heap_past (by simp <;> omega), heap_past (by simp <;> omega), heap_at rfl]
  have h1 : W.heap[w.heap.size + 1]? = some (.cells #[.slice none 0 0] 22 (0, 0)) := by rw [← hW, heap_past (by simp <;> omega), heap_past (by simp <;> omega), heap_at (by simp <;> omega)]
  have h2 : W.heap[w.heap.size + 1 + 1]? = some (.cells #[.int .i64 0] 25 (0, 0)) := by rw [← hW, heap_past (by simp <;> omega), heap_at (by simp <;> omega)]
  have h3 : W.heap[w.heap.size + 1 + 1 + 1]? = some (.cells #[.slice ao xs.length cap, .int .i64 0] 201 (0, 0)) := by rw [← hW, heap_at (by simp <;> omega)]
  have hsz : W.heap.size = w.heap.size + 4 := by rw [← hW]; simp
  clear hW
  have hst : RSt 201 w.heap.size W (w.heap.size + 1 + 1 + 1) (.ok xs) := ⟨_, xs, ⟨rfl, h3⟩, hv.kept hWg (by cases h : (Value.slice ao xs.length cap).ownBlock <;> simp), ⟨hvb, by omega⟩, hb, hl⟩
  refine (HF.out _ _ _ _ hst).mono ?_
  rintro e w1 ⟨v1, x, s', rfl, hrep, hg1, hst1, hrel⟩
  obtain ⟨cs, hT, hcs⟩ := HTY.out _ _ _ _ hrep
  have k0 := row_of hg1 h0 (by simp <;> omega)
  have k1 := row_of hg1 h1 (by simp <;> omega)
  have k2 := row_of hg1 h2 (by simp <;> omega)
  have hsz1 := hg1.size
  clear h0 h1 h2 h3 hst
  have K0 := hid k0
  have K1 := hid k1
  have K2 := hid k2
  have HS := hid hst1
  obtain ⟨e1, hgz, hz0⟩ := hT.stores k0 (by rw [hcs]; rfl)
  have hlenz : (w1.setCells w.heap.size 0 cs).heap.size = w1.heap.size := setCells_size _ _ _ _
  have hz1 := row_of hgz K1.out (by simp)
  have hz2 := row_of hgz K2.out (by simp <;> omega)
  have hz3 : ∀ (k : Nat) (o : Obj), w1.heap[k]? = some o → k ≠ w.heap.size → (w1.setCells w.heap.size 0 cs).heap[k]? = some o := fun k o h hk => row_of hgz h (by simp <;> omega)
  generalize w1.setCells w.heap.size 0 cs = wz at *
  have E1 := hid e1
  have HT := hid hT
  have HR := hid hrep
  clear k0 k1 k2 hT hrep e1
  cases s' with
  | error er =>
    obtain ⟨v3, l3, ⟨he, he2, hrow⟩, _⟩ := hst1
    have z3 := hz3 _ _ hrow (by omega)
    obtain ⟨r0, r1, _, _⟩ := row2 z3
    have hne : ((er : Int) != 0) = true := by simp; omega
    have Z0 := hid hz0
    have Z1 := hid hz1
    have Z2 := hid hz2
    have Z3 := hid z3
    clear hrow hz0 hz1 hz2 hz3 z3
    go_wp2_with (refine wpList_store_ty rfl (.tmp 4) (.tmp 15) rfl rfl rfl E1.out ?_)
    refine read6 mixed true 67 _ _ _ _ 6 w.heap.size (w.heap.size + 1 + 1 + 1) w1.heap.size (.agg #[Value.int .i64 0, Value.int .i64 0, Value.string ⟨#[]⟩]) er [(Value.int .i64 0), (Value.int .i64 0), (Value.string ⟨#[]⟩)] _ _ (wz.alloc (Obj.cells #[Value.int .i64 0, Value.int .i64 0, Value.string ⟨#[]⟩] 67)) rfl rfl rfl rfl rfl rfl (fun _ => ⟨by omega, heap_at hlenz.symm⟩) ztyVal tyS tyE ⟨_, by simp [hcs], (heap_past (by have := hgz.size; omega)).trans Z0.out⟩ ⟨_, (heap_past (by have := hgz.size; omega)).trans Z1.out⟩ ⟨_, (heap_past (by have := hgz.size; omega)).trans Z2.out⟩ (row2 ((heap_past (by have := hgz.size; have := (Array.getElem?_eq_some_iff.1 Z3.out).1; omega)).trans Z3.out)).2.1 (by omega) (fun w => field1 w _) ?_
    intro a w2 hres hd hs hl q0 q1 q2
    go_wp2
    obtain ⟨tmps, ds⟩ := a
    simp only at hd hs hl
    subst hd
    refine leaves_cons (f := 180) (args := #[.pointer (some ⟨w.heap.size, 0, none⟩), .pointer (some ⟨w.heap.size + 1, 0, none⟩), .pointer (some ⟨w.heap.size + 1 + 1, 0, none⟩)]) (by simp) (by simp [go_sem]) ?_
    refine (recVal_walk _ _ _ _).mono ?_
    rintro e u' w'' ⟨rfl, rfl, rfl⟩
    have hrs := Res3.grown hWg hg1 (grown_trans hgz (World.grownBy_alloc wz (Obj.cells #[Value.int .i64 0, Value.int .i64 0, Value.string ⟨#[]⟩] 67) _)) hres (by omega) rfl rfl
    exact ⟨_, results3 rfl (hl 4 (by decide)) (hl 5 (by decide)) (hl 6 (by decide)) ztyVal (tyS none 0 0) (tyE er) q0 q1 q2, ReadPost.mkErr hrs hrel.err rfl he⟩
  | ok l' =>
    obtain ⟨v3, l3, ⟨rfl, hrow⟩, hsl, hvl, hlb, hll⟩ := hst1
    have z3 := hz3 _ _ hrow (by omega)
    obtain ⟨r0, r1, _, _⟩ := row2 z3
    have Z0 := hid hz0
    have Z1 := hid hz1
    have Z2 := hid hz2
    have Z3 := hid z3
    clear hrow hz0 hz1 hz2 hz3 z3
    go_wp2_with (refine wpList_store_ty rfl (.tmp 4) (.tmp 15) rfl rfl rfl E1.out ?_)
    refine read7 mixed 67 _ _ _ _ 165 7 w.heap.size (w.heap.size + 1 + 1 + 1) v1 v3 cs l' _ _ _ rfl rfl rfl rfl rfl HT.out tyS tyE Z0.out ⟨_, Z1.out⟩ ⟨_, Z2.out⟩ (row2 Z3.out).1 (by omega) (hsl.kept hgz (.inr (hvl.1.ne (Nat.le_refl _)))) hvl.1 (fun w => field0 w _) enterClone (fun w v hv => clone_walk v l' w hv hll) ?_
    intro a w2 hres hd hs hl q0 q1 q2
    go_wp2
    obtain ⟨tmps, ds⟩ := a
    simp only at hd hs hl
    subst hd
    refine leaves_cons (f := 180) (args := #[.pointer (some ⟨w.heap.size, 0, none⟩), .pointer (some ⟨w.heap.size + 1, 0, none⟩), .pointer (some ⟨w.heap.size + 1 + 1, 0, none⟩)]) (by simp) (by simp [go_sem]) ?_
    refine (recVal_walk _ _ _ _).mono ?_
    rintro e u' w'' ⟨rfl, rfl, rfl⟩
    have hrs := Res3.grown hWg hg1 hgz hres (by omega) rfl rfl
    obtain ⟨v', q1, qs, qk⟩ := q1
    obtain ⟨ao', cap', rfl, _, _⟩ := qs.shape
    have hrep' : rep w.heap.size w'' v1 x := HMO.out _ _ _ _ _ HR.out (by have := hgz.size; have := hres.size; omega) (fun k hk1 hk2 => (hres.block k (by have := hgz.size; omega) (by omega) (by omega) (by omega)).trans (hgz.block k hk2 (by simp <;> omega))) _ (by omega)
    exact ⟨_, results3 rfl (hl 4 (by decide)) (hl 5 (by decide)) (hl 6 (by decide)) HT.out (tyS _ _ _) (tyE 0) q0 q1 q2, ReadPost.mkOk hrs hrel.ok rfl hrep' qs fun k hk => by have := qk k hk; have := hgz.size; omega⟩
end

/-! ## RdTRec -/
section
open Go.RowKit

theorem ztyRec : TY Try.prog 95 [(Value.slice none 0 0), (Value.slice none 0 0), (Value.int .i64 0)] (.agg #[Value.slice none 0 0, Value.slice none 0 0, Value.int .i64 0]) := TY.agg Try.underlying95 rfl (by kernel_rfl) (by simp [Value.oneCell'])
set_option maxRecDepth 100000 in
theorem recRec_walk (a b c : Value) (w : World) : CallsD Try.prog 185 #[a, b, c] .returning w fun e u' w' => e = .returned (.tuple #[]) ∧ u' = .returning ∧ w' = w := by
  refine callsD_of_wpS Try.func185 rfl fun c₀ cs hu => ?_
  apply wpS_seq
  apply wpS_region
  simp [wpOpsS, go_sem, recoverD, hu, Try.ntmps185]
  refine wpS_cond (t := false) rfl ?_
  refine wpS_of_wp (wp_skip ?_)
  cases c₀
  simp_all [bodyPostS, results, Try.results185]
set_option maxRecDepth 100000 in
set_option maxHeartbeats 1000000 in
theorem readRec_walk {α : Type} (p : Parser α) (rep : Nat → World → Value → α → Prop) (v : Value) (xs : List Nat) (w : World) (hv : Sl w 1 v xs.length (bv xs)) (hl : xs.length ≤ 1099511627776) (hb : ∀ b ∈ xs, b < 256) (hvb : Lo v w.heap.size)
    (hF : ∀ (w : World) (R L : Nat) (s : St), RSt 201 L w R s → Calls Try.prog 134 #[.pointer (some ⟨R, 0, none⟩)] w (RdPost 201 L w R p s (rep w.heap.size)))
    (hTY : ∀ (L : Nat) (w : World) (v : Value) (x : α), rep L w v x → ∃ cs, TY Try.prog 95 cs v ∧ cs.length = 3)
    (hmono : ∀ (L : Nat) (w w' : World) (v : Value) (x : α), rep L w v x → w.heap.size ≤ w'.heap.size → (∀ k, L ≤ k → k < w.heap.size → w'.heap[k]? = w.heap[k]?) → ∀ L', L' ≤ L → rep L' w' v x) :
    Calls Try.prog 133 #[v, .func (.func 134) #[] #[]] w (ReadPost p xs (.agg #[Value.slice none 0 0, Value.slice none 0 0, Value.int .i64 0]) rep w) := by
  obtain ⟨ao, cap, rfl, hnc, hcm⟩ := hv.shape
  have HF := hid hF
  have HTY := hid hTY
  have HMO := hid hmono
  clear hF hTY hmono
  have hmf : ∀ (fn : Fn) (first cap : Array Value) (w : World), (Instr.makeFunc fn first cap).run Try.prog w = .ok (.func fn first cap) w := fun _ _ _ _ => rfl
  go_enter_defers Try.func133, Try.ntmps133
  go_wp2_with fail
  generalize hW : (((w.alloc (Obj.cells #[Value.slice none 0 0, Value.slice none 0 0, Value.int .i64 0] 95)).alloc (Obj.cells #[Value.slice none 0 0] 22)).alloc (Obj.cells #[Value.int IntKind.i64 0] 25)).alloc (Obj.cells #[Value.slice ao xs.length cap, Value.int IntKind.i64 0] 201) = W
  have hWg : w.grownBy W none := by rw [← hW]; exact grown_trans (grown_trans (grown_trans (World.grownBy_alloc _ _ _) (World.grownBy_alloc _ _ _)) (World.grownBy_alloc _ _ _)) (World.grownBy_alloc _ _ _)
  have h0 : W.heap[w.heap.size]? = some (.cells #[Value.slice none 0 0, Value.slice none 0 0, Value.int .i64 0] 95 (0, 0)) := by rw [← hW, heap_past (by simp <;> omega), heap_past (by simp <;> omega), heap_past (by simp <;> omega), heap_at rfl]
  have h1 : W.heap[w.heap.size + 1]? = some (.cells #[.slice none 0 0] 22 (0, 0)) := by rw [← hW, heap_past (by simp <;> omega), heap_past (by simp <;> omega), heap_at (by simp <;> omega)]
  have h2 : W.heap[w.heap.size + 1 + 1]? = some (.cells #[.int .i64 0] 25 (0, 0)) := by rw [← hW, heap_past (by simp <;> omega), heap_at (by simp <;> omega)]
  have h3 : W.heap[w.heap.size + 1 + 1 + 1]? = some (.cells #[.slice ao xs.length cap, .int .i64 0] 201 (0, 0)) := by rw [← hW, heap_at (by simp <;> omega)]
  have hsz : W.heap.size = w.heap.size + 4 := by rw [← hW]; simp
  clear hW
  have hst : RSt 201 w.heap.size W (w.heap.size + 1 + 1 + 1) (.ok xs) := ⟨_, xs, ⟨rfl, h3⟩, hv.kept hWg (by cases h : (Value.slice ao xs.length cap).ownBlock <;> simp), ⟨hvb, by omega⟩, hb, hl⟩
  refine (HF.out _ _ _ _ hst).mono ?_
  rintro e w1 ⟨v1, x, s', rfl, hrep, hg1, hst1, hrel⟩
  obtain ⟨cs, hT, hcs⟩ := HTY.out _ _ _ _ hrep
  have k0 := row_of hg1 h0 (by simp <;> omega)
  have k1 := row_of hg1 h1 (by simp <;> omega)
  have k2 := row_of hg1 h2 (by simp <;> omega)
  have hsz1 := hg1.size
  clear h0 h1 h2 h3 hst
  have K0 := hid k0
  have K1 := hid k1
  have K2 := hid k2
  have HS := hid hst1
  obtain ⟨e1, hgz, hz0⟩ := hT.stores k0 (by rw [hcs]; rfl)
  have hlenz : (w1.setCells w.heap.size 0 cs).heap.size = w1.heap.size := setCells_size _ _ _ _
  have hz1 := row_of hgz K1.out (by simp)
  have hz2 := row_of hgz K2.out (by simp <;> omega)
  have hz3 : ∀ (k : Nat) (o : Obj), w1.heap[k]? = some o → k ≠ w.heap.size → (w1.setCells w.heap.size 0 cs).heap[k]? = some o := fun k o h hk => row_of hgz h (by simp <;> omega)
  generalize w1.setCells w.heap.size 0 cs = wz at *
  have E1 := hid e1
  have HT := hid hT
  have HR := hid hrep
  clear k0 k1 k2 hT hrep e1
  cases s' with
  | error er =>
    obtain ⟨v3, l3, ⟨he, he2, hrow⟩, _⟩ := hst1
    have z3 := hz3 _ _ hrow (by omega)
    obtain ⟨r0, r1, _, _⟩ := row2 z3
    have hne : ((er : Int) != 0) = true := by simp; omega
    have Z0 := hid hz0
    have Z1 := hid hz1
    have Z2 := hid hz2
    have Z3 := hid z3
    clear hrow hz0 hz1 hz2 hz3 z3
    go_wp2_with (refine wpList_store_ty rfl (.tmp 4) (.tmp 15) rfl rfl rfl E1.out ?_)
    refine read6 mixed true 95 _ _ _ _ 6 w.heap.size (w.heap.size + 1 + 1 + 1) w1.heap.size (.agg #[Value.slice none 0 0, Value.slice none 0 0, Value.int .i64 0]) er [(Value.slice none 0 0), (Value.slice none 0 0), (Value.int .i64 0)] _ _ (wz.alloc (Obj.cells #[Value.slice none 0 0, Value.slice none 0 0, Value.int .i64 0] 95)) rfl rfl rfl rfl rfl rfl (fun _ => ⟨by omega, heap_at hlenz.symm⟩) ztyRec tyS tyE ⟨_, by simp [hcs], (heap_past (by have := hgz.size; omega)).trans Z0.out⟩ ⟨_, (heap_past (by have := hgz.size; omega)).trans Z1.out⟩ ⟨_, (heap_past (by have := hgz.size; omega)).trans Z2.out⟩ (row2 ((heap_past (by have := hgz.size; have := (Array.getElem?_eq_some_iff.1 Z3.out).1; omega)).trans Z3.out)).2.1 (by omega) (fun w => field1 w _) ?_
    intro a w2 hres hd hs hl q0 q1 q2
    go_wp2
    obtain ⟨tmps, ds⟩ := a
    simp only at hd hs hl
    subst hd
    refine leaves_cons (f := 185) (args := #[.pointer (some ⟨w.heap.size, 0, none⟩), .pointer (some ⟨w.heap.size + 1, 0, none⟩), .pointer (some ⟨w.heap.size + 1 + 1, 0, none⟩)]) (by simp) (by simp [go_sem]) ?_
    refine (recRec_walk _ _ _ _).mono ?_
    rintro e u' w'' ⟨rfl, rfl, rfl⟩
    have hrs := Res3.grown hWg hg1 (grown_trans hgz (World.grownBy_alloc wz (Obj.cells #[Value.slice none 0 0, Value.slice none 0 0, Value.int .i64 0] 95) _)) hres (by omega) rfl rfl
    exact ⟨_, results3 rfl (hl 4 (by decide)) (hl 5 (by decide)) (hl 6 (by decide)) ztyRec (tyS none 0 0) (tyE er) q0 q1 q2, ReadPost.mkErr hrs hrel.err rfl he⟩
  | ok l' =>
    obtain ⟨v3, l3, ⟨rfl, hrow⟩, hsl, hvl, hlb, hll⟩ := hst1
    have z3 := hz3 _ _ hrow (by omega)
    obtain ⟨r0, r1, _, _⟩ := row2 z3
    have Z0 := hid hz0
    have Z1 := hid hz1
    have Z2 := hid hz2
    have Z3 := hid z3
    clear hrow hz0 hz1 hz2 hz3 z3
    go_wp2_with (refine wpList_store_ty rfl (.tmp 4) (.tmp 15) rfl rfl rfl E1.out ?_)
    refine read7 mixed 95 _ _ _ _ 165 7 w.heap.size (w.heap.size + 1 + 1 + 1) v1 v3 cs l' _ _ _ rfl rfl rfl rfl rfl HT.out tyS tyE Z0.out ⟨_, Z1.out⟩ ⟨_, Z2.out⟩ (row2 Z3.out).1 (by omega) (hsl.kept hgz (.inr (hvl.1.ne (Nat.le_refl _)))) hvl.1 (fun w => field0 w _) enterClone (fun w v hv => clone_walk v l' w hv hll) ?_
    intro a w2 hres hd hs hl q0 q1 q2
    go_wp2
    obtain ⟨tmps, ds⟩ := a
    simp only at hd hs hl
    subst hd
    refine leaves_cons (f := 185) (args := #[.pointer (some ⟨w.heap.size, 0, none⟩), .pointer (some ⟨w.heap.size + 1, 0, none⟩), .pointer (some ⟨w.heap.size + 1 + 1, 0, none⟩)]) (by simp) (by simp [go_sem]) ?_
    refine (recRec_walk _ _ _ _).mono ?_
    rintro e u' w'' ⟨rfl, rfl, rfl⟩
    have hrs := Res3.grown hWg hg1 hgz hres (by omega) rfl rfl
    obtain ⟨v', q1, qs, qk⟩ := q1
    obtain ⟨ao', cap', rfl, _, _⟩ := qs.shape
    have hrep' : rep w.heap.size w'' v1 x := HMO.out _ _ _ _ _ HR.out (by have := hgz.size; have := hres.size; omega) (fun k hk1 hk2 => (hres.block k (by have := hgz.size; omega) (by omega) (by omega) (by omega)).trans (hgz.block k hk2 (by simp <;> omega))) _ (by omega)
    exact ⟨_, results3 rfl (hl 4 (by decide)) (hl 5 (by decide)) (hl 6 (by decide)) HT.out (tyS _ _ _) (tyE 0) q0 q1 q2, ReadPost.mkOk hrs hrel.ok rfl hrep' qs fun k hk => by have := qk k hk; have := hgz.size; omega⟩
end

/-! ## RdTCh -/
section
open Go.RowKit

theorem ztyCh : TY Try.prog 86 [(Value.int .i64 0), (Value.int .i64 0), (Value.int .i64 0), (Value.int .i64 0), (Value.slice none 0 0), (Value.int .i64 0), (Value.int .i64 0), (Value.string ⟨#[]⟩), (Value.int .i64 0), (Value.int .i64 0), (Value.int .i64 0), (Value.string ⟨#[]⟩)] (.agg #[Value.int .i64 0, Value.int .i64 0, Value.int .i64 0, Value.int .i64 0, Value.slice none 0 0, Value.int .i64 0, Value.int .i64 0, Value.string ⟨#[]⟩, Value.int .i64 0, Value.int .i64 0, Value.int .i64 0, Value.string ⟨#[]⟩]) := TY.agg Try.underlying86 rfl (by kernel_rfl) (by simp [Value.oneCell'])
set_option maxRecDepth 100000 in
theorem recCh_walk (a b c : Value) (w : World) : CallsD Try.prog 184 #[a, b, c] .returning w fun e u' w' => e = .returned (.tuple #[]) ∧ u' = .returning ∧ w' = w := by
  refine callsD_of_wpS Try.func184 rfl fun c₀ cs hu => ?_
  apply wpS_seq
  apply wpS_region
  simp [wpOpsS, go_sem, recoverD, hu, Try.ntmps184]
  refine wpS_cond (t := false) rfl ?_
  refine wpS_of_wp (wp_skip ?_)
  cases c₀
  simp_all [bodyPostS, results, Try.results184]
set_option maxRecDepth 100000 in
set_option maxHeartbeats 1000000 in
theorem readCh_walk {α : Type} (p : Parser α) (rep : Nat → World → Value → α → Prop) (v : Value) (xs : List Nat) (w : World) (hv : Sl w 1 v xs.length (bv xs)) (hl : xs.length ≤ 1099511627776) (hb : ∀ b ∈ xs, b < 256) (hvb : Lo v w.heap.size)
    (hF : ∀ (w : World) (R L : Nat) (s : St), RSt 201 L w R s → Calls Try.prog 130 #[.pointer (some ⟨R, 0, none⟩)] w (RdPost 201 L w R p s (rep w.heap.size)))
    (hTY : ∀ (L : Nat) (w : World) (v : Value) (x : α), rep L w v x → ∃ cs, TY Try.prog 86 cs v ∧ cs.length = 12)
    (hmono : ∀ (L : Nat) (w w' : World) (v : Value) (x : α), rep L w v x → w.heap.size ≤ w'.heap.size → (∀ k, L ≤ k → k < w.heap.size → w'.heap[k]? = w.heap[k]?) → ∀ L', L' ≤ L → rep L' w' v x) :
    Calls Try.prog 129 #[v, .func (.func 130) #[] #[]] w (ReadPost p xs (.agg #[Value.int .i64 0, Value.int .i64 0, Value.int .i64 0, Value.int .i64 0, Value.slice none 0 0, Value.int .i64 0, Value.int .i64 0, Value.string ⟨#[]⟩, Value.int .i64 0, Value.int .i64 0, Value.int .i64 0, Value.string ⟨#[]⟩]) rep w) := by
  obtain ⟨ao, cap, rfl, hnc, hcm⟩ := hv.shape
  have HF := hid hF
  have HTY := hid hTY
  have HMO := hid hmono
  clear hF hTY hmono
  have hmf : ∀ (fn : Fn) (first cap : Array Value) (w : World), (Instr.makeFunc fn first cap).run Try.prog w = .ok (.func fn first cap) w := fun _ _ _ _ => rfl
  go_enter_defers Try.func129, Try.ntmps129
  go_wp2_with fail
  generalize hW : (((w.alloc (Obj.cells #[Value.int .i64 0, Value.int .i64 0, Value.int .i64 0, Value.int .i64 0, Value.slice none 0 0, Value.int .i64 0, Value.int .i64 0, Value.string ⟨#[]⟩, Value.int .i64 0, Value.int .i64 0, Value.int .i64 0, Value.string ⟨#[]⟩] 86)).alloc (Obj.cells #[Value.slice none 0 0] 22)).alloc (Obj.cells #[Value.int IntKind.i64 0] 25)).alloc (Obj.cells #[Value.slice ao xs.length cap, Value.int IntKind.i64 0] 201) = W
  have hWg : w.grownBy W none := by rw [← hW]; exact grown_trans (grown_trans (grown_trans (World.grownBy_alloc _ _ _) (World.grownBy_alloc _ _ _)) (World.grownBy_alloc _ _ _)) (World.grownBy_alloc _ _ _)
  have h0 : W.heap[w.heap.size]? = some (.cells #[Value.int .i64 0, Value.int .i64 0, Value.int .i64 0, Value.int .i64 0, Value.slice none 0 0, Value.int .i64 0, Value.int .i64 0, Value.string ⟨#[]⟩, Value.int .i64 0, Value.int .i64 0, Value.int .i64 0, Value.string ⟨#[]⟩] 86 (0, 0)) := by rw [← hW, heap_past (by simp <;> omega), heap_past (by simp <;> omega), heap_past (by simp <;> omega), heap_at rfl]
  have h1 : W.heap[w.heap.size + 1]? = some (.cells #[.slice none 0 0] 22 (0, 0)) := by rw [← hW, heap_past (by simp <;> omega), heap_past (by simp <;> omega), heap_at (by simp <;> omega)]
  have h2 : W.heap[w.heap.size + 1 + 1]? = some (.cells #[.int .i64 0] 25 (0, 0)) := by rw [← hW, heap_past (by simp <;> omega), heap_at (by simp <;> omega)]
  have h3 : W.heap[w.heap.size + 1 + 1 + 1]? = some (.cells #[.slice ao xs.length cap, .int .i64 0] 201 (0, 0)) := by rw [← hW, heap_at (by simp <;> omega)]
  have hsz : W.heap.size = w.heap.size + 4 := by rw [← hW]; simp
  clear hW
  have hst : RSt 201 w.heap.size W (w.heap.size + 1 + 1 + 1) (.ok xs) := ⟨_, xs, ⟨rfl, h3⟩, hv.kept hWg (by cases h : (Value.slice ao xs.length cap).ownBlock <;> simp), ⟨hvb, by omega⟩, hb, hl⟩
  refine (HF.out _ _ _ _ hst).mono ?_
  rintro e w1 ⟨v1, x, s', rfl, hrep, hg1, hst1, hrel⟩
  obtain ⟨cs, hT, hcs⟩ := HTY.out _ _ _ _ hrep
  have k0 := row_of hg1 h0 (by simp <;> omega)
  have k1 := row_of hg1 h1 (by simp <;> omega)
  have k2 := row_of hg1 h2 (by simp <;> omega)
  have hsz1 := hg1.size
  clear h0 h1 h2 h3 hst
  have K0 := hid k0
  have K1 := hid k1
  have K2 := hid k2
  have HS := hid hst1
  obtain ⟨e1, hgz, hz0⟩ := hT.stores k0 (by rw [hcs]; rfl)
  have hlenz : (w1.setCells w.heap.size 0 cs).heap.size = w1.heap.size := setCells_size _ _ _ _
  have hz1 := row_of hgz K1.out (by simp)
  have hz2 := row_of hgz K2.out (by simp <;> omega)
  have hz3 : ∀ (k : Nat) (o : Obj), w1.heap[k]? = some o → k ≠ w.heap.size → (w1.setCells w.heap.size 0 cs).heap[k]? = some o := fun k o h hk => row_of hgz h (by simp <;> omega)
  generalize w1.setCells w.heap.size 0 cs = wz at *
  have E1 := hid e1
  have HT := hid hT
  have HR := hid hrep
  clear k0 k1 k2 hT hrep e1
  cases s' with
  | error er =>
    obtain ⟨v3, l3, ⟨he, he2, hrow⟩, _⟩ := hst1
    have z3 := hz3 _ _ hrow (by omega)
    obtain ⟨r0, r1, _, _⟩ := row2 z3
    have hne : ((er : Int) != 0) = true := by simp; omega
    have Z0 := hid hz0
    have Z1 := hid hz1
    have Z2 := hid hz2
    have Z3 := hid z3
    clear hrow hz0 hz1 hz2 hz3 z3
    go_wp2_with (refine wpList_store_ty rfl (.tmp 4) (.tmp 15) rfl rfl rfl E1.out ?_)
    refine read6 mixed true 86 _ _ _ _ 6 w.heap.size (w.heap.size + 1 + 1 + 1) w1.heap.size (.agg #[Value.int .i64 0, Value.int .i64 0, Value.int .i64 0, Value.int .i64 0, Value.slice none 0 0, Value.int .i64 0, Value.int .i64 0, Value.string ⟨#[]⟩, Value.int .i64 0, Value.int .i64 0, Value.int .i64 0, Value.string ⟨#[]⟩]) er [(Value.int .i64 0), (Value.int .i64 0), (Value.int .i64 0), (Value.int .i64 0), (Value.slice none 0 0), (Value.int .i64 0), (Value.int .i64 0), (Value.string ⟨#[]⟩), (Value.int .i64 0), (Value.int .i64 0), (Value.int .i64 0), (Value.string ⟨#[]⟩)] _ _ (wz.alloc (Obj.cells #[Value.int .i64 0, Value.int .i64 0, Value.int .i64 0, Value.int .i64 0, Value.slice none 0 0, Value.int .i64 0, Value.int .i64 0, Value.string ⟨#[]⟩, Value.int .i64 0, Value.int .i64 0, Value.int .i64 0, Value.string ⟨#[]⟩] 86)) rfl rfl rfl rfl rfl rfl (fun _ => ⟨by omega, heap_at hlenz.symm⟩) ztyCh tyS tyE ⟨_, by simp [hcs], (heap_past (by have := hgz.size; omega)).trans Z0.out⟩ ⟨_, (heap_past (by have := hgz.size; omega)).trans Z1.out⟩ ⟨_, (heap_past (by have := hgz.size; omega)).trans Z2.out⟩ (row2 ((heap_past (by have := hgz.size; have := (Array.getElem?_eq_some_iff.1 Z3.out).1; omega)).trans Z3.out)).2.1 (by omega) (fun w => field1 w _) ?_
    intro a w2 hres hd hs hl q0 q1 q2
    go_wp2
    obtain ⟨tmps, ds⟩ := a
    simp only at hd hs hl
    subst hd
    refine leaves_cons (f := 184) (args := #[.pointer (some ⟨w.heap.size, 0, none⟩), .pointer (some ⟨w.heap.size + 1, 0, none⟩), .pointer (some ⟨w.heap.size + 1 + 1, 0, none⟩)]) (by simp) (by simp [go_sem]) ?_
    refine (recCh_walk _ _ _ _).mono ?_
    rintro e u' w'' ⟨rfl, rfl, rfl⟩
    have hrs := Res3.grown hWg hg1 (grown_trans hgz (World.grownBy_alloc wz (Obj.cells #[Value.int .i64 0, Value.int .i64 0, Value.int .i64 0, Value.int .i64 0, Value.slice none 0 0, Value.int .i64 0, Value.int .i64 0, Value.string ⟨#[]⟩, Value.int .i64 0, Value.int .i64 0, Value.int .i64 0, Value.string ⟨#[]⟩] 86) _)) hres (by omega) rfl rfl
    exact ⟨_, results3 rfl (hl 4 (by decide)) (hl 5 (by decide)) (hl 6 (by decide)) ztyCh (tyS none 0 0) (tyE er) q0 q1 q2, ReadPost.mkErr hrs hrel.err rfl he⟩
  | ok l' =>
    obtain ⟨v3, l3, ⟨rfl, hrow⟩, hsl, hvl, hlb, hll⟩ := hst1
    have z3 := hz3 _ _ hrow (by omega)
    obtain ⟨r0, r1, _, _⟩ := row2 z3
    have Z0 := hid hz0
    have Z1 := hid hz1
    have Z2 := hid hz2
    have Z3 := hid z3
    clear hrow hz0 hz1 hz2 hz3 z3
    go_wp2_with (refine wpList_store_ty rfl (.tmp 4) (.tmp 15) rfl rfl rfl E1.out ?_)
    refine read7 mixed 86 _ _ _ _ 165 7 w.heap.size (w.heap.size + 1 + 1 + 1) v1 v3 cs l' _ _ _ rfl rfl rfl rfl rfl HT.out tyS tyE Z0.out ⟨_, Z1.out⟩ ⟨_, Z2.out⟩ (row2 Z3.out).1 (by omega) (hsl.kept hgz (.inr (hvl.1.ne (Nat.le_refl _)))) hvl.1 (fun w => field0 w _) enterClone (fun w v hv => clone_walk v l' w hv hll) ?_
    intro a w2 hres hd hs hl q0 q1 q2
    go_wp2
    obtain ⟨tmps, ds⟩ := a
    simp only at hd hs hl
    subst hd
    refine leaves_cons (f := 184) (args := #[.pointer (some ⟨w.heap.size, 0, none⟩), .pointer (some ⟨w.heap.size + 1, 0, none⟩), .pointer (some ⟨w.heap.size + 1 + 1, 0, none⟩)]) (by simp) (by simp [go_sem]) ?_
    refine (recCh_walk _ _ _ _).mono ?_
    rintro e u' w'' ⟨rfl, rfl, rfl⟩
    have hrs := Res3.grown hWg hg1 hgz hres (by omega) rfl rfl
    obtain ⟨v', q1, qs, qk⟩ := q1
    obtain ⟨ao', cap', rfl, _, _⟩ := qs.shape
    have hrep' : rep w.heap.size w'' v1 x := HMO.out _ _ _ _ _ HR.out (by have := hgz.size; have := hres.size; omega) (fun k hk1 hk2 => (hres.block k (by have := hgz.size; omega) (by omega) (by omega) (by omega)).trans (hgz.block k hk2 (by simp <;> omega))) _ (by omega)
    exact ⟨_, results3 rfl (hl 4 (by decide)) (hl 5 (by decide)) (hl 6 (by decide)) HT.out (tyS _ _ _) (tyE 0) q0 q1 q2, ReadPost.mkOk hrs hrel.ok rfl hrep' qs fun k hk => by have := qk k hk; have := hgz.size; omega⟩
end

/-! ## RdTIdf -/
section
open Go.RowKit

theorem ztyIdf : TY Try.prog 103 [(Value.string ⟨#[]⟩), (Value.int .i64 0), (Value.int .i64 0), (Value.string ⟨#[]⟩)] (.agg #[Value.string ⟨#[]⟩, Value.int .i64 0, Value.int .i64 0, Value.string ⟨#[]⟩]) := TY.agg Try.underlying103 rfl (by kernel_rfl) (by simp [Value.oneCell'])
set_option maxRecDepth 100000 in
theorem recIdf_walk (a b c : Value) (w : World) : CallsD Try.prog 191 #[a, b, c] .returning w fun e u' w' => e = .returned (.tuple #[]) ∧ u' = .returning ∧ w' = w := by
  refine callsD_of_wpS Try.func191 rfl fun c₀ cs hu => ?_
  apply wpS_seq
  apply wpS_region
  simp [wpOpsS, go_sem, recoverD, hu, Try.ntmps191]
  refine wpS_cond (t := false) rfl ?_
  refine wpS_of_wp (wp_skip ?_)
  cases c₀
  simp_all [bodyPostS, results, Try.results191]
set_option maxRecDepth 100000 in
set_option maxHeartbeats 1000000 in
theorem readIdf_walk {α : Type} (p : Parser α) (rep : Nat → World → Value → α → Prop) (v : Value) (xs : List Nat) (w : World) (hv : Sl w 1 v xs.length (bv xs)) (hl : xs.length ≤ 1099511627776) (hb : ∀ b ∈ xs, b < 256) (hvb : Lo v w.heap.size)
    (hF : ∀ (w : World) (R L : Nat) (s : St), RSt 201 L w R s → Calls Try.prog 153 #[.pointer (some ⟨R, 0, none⟩)] w (RdPost 201 L w R p s (rep w.heap.size)))
    (hTY : ∀ (L : Nat) (w : World) (v : Value) (x : α), rep L w v x → ∃ cs, TY Try.prog 103 cs v ∧ cs.length = 4)
    (hmono : ∀ (L : Nat) (w w' : World) (v : Value) (x : α), rep L w v x → w.heap.size ≤ w'.heap.size → (∀ k, L ≤ k → k < w.heap.size → w'.heap[k]? = w.heap[k]?) → ∀ L', L' ≤ L → rep L' w' v x) :
    Calls Try.prog 152 #[v, .func (.func 153) #[] #[]] w (ReadPost p xs (.agg #[Value.string ⟨#[]⟩, Value.int .i64 0, Value.int .i64 0, Value.string ⟨#[]⟩]) rep w) := by
  obtain ⟨ao, cap, rfl, hnc, hcm⟩ := hv.shape
  have HF := hid hF
  have HTY := hid hTY
  have HMO := hid hmono
  clear hF hTY hmono
  have hmf : ∀ (fn : Fn) (first cap : Array Value) (w : World), (Instr.makeFunc fn first cap).run Try.prog w = .ok (.func fn first cap) w := fun _ _ _ _ => rfl
  go_enter_defers Try.func152, Try.ntmps152
  go_wp2_with fail
  generalize hW : (((w.alloc (Obj.cells #[Value.string ⟨#[]⟩, Value.int .i64 0, Value.int .i64 0, Value.string ⟨#[]⟩] 103)).alloc (Obj.cells #[Value.slice none 0 0] 22)).alloc (Obj.cells #[Value.int IntKind.i64 0] 25)).alloc (Obj.cells #[Value.slice ao xs.length cap, Value.int IntKind.i64 0] 201) = W
  have hWg : w.grownBy W none := by rw [← hW]; exact grown_trans (grown_trans (grown_trans (World.grownBy_alloc _ _ _) (World.grownBy_alloc _ _ _)) (World.grownBy_alloc _ _ _)) (World.grownBy_alloc _ _ _)
  have h0 : W.heap[w.heap.size]? = some (.cells #[Value.string ⟨#[]⟩, Value.int .i64 0, Value.int .i64 0, Value.string ⟨#[]⟩] 103 (0, 0)) := by rw [← hW, heap_past (by simp <;> omega), heap_past (by simp <;> omega), heap_past (by simp <;> omega), heap_at rfl]
  have h1 : W.heap[w.heap.size + 1]? = some (.cells #[.slice none 0 0] 22 (0, 0)) := by rw [← hW, heap_past (by simp <;> omega), heap_past (by simp <;> omega), heap_at (by simp <;> omega)]
  have h2 : W.heap[w.heap.size + 1 + 1]? = some (.cells #[.int .i64 0] 25 (0, 0)) := by rw [← hW, heap_past (by simp <;> omega), heap_at (by simp <;> omega)]
  have h3 : W.heap[w.heap.size + 1 + 1 + 1]? = some (.cells #[.slice ao xs.length cap, .int .i64 0] 201 (0, 0)) := by rw [← hW, heap_at (by simp <;> omega)]
  have hsz : W.heap.size = w.heap.size + 4 := by rw [← hW]; simp
  clear hW
  have hst : RSt 201 w.heap.size W (w.heap.size + 1 + 1 + 1) (.ok xs) := ⟨_, xs, ⟨rfl, h3⟩, hv.kept hWg (by cases h : (Value.slice ao xs.length cap).ownBlock <;> simp), ⟨hvb, by omega⟩, hb, hl⟩
  refine (HF.out _ _ _ _ hst).mono ?_
  rintro e w1 ⟨v1, x, s', rfl, hrep, hg1, hst1, hrel⟩
  obtain ⟨cs, hT, hcs⟩ := HTY.out _ _ _ _ hrep
  have k0 := row_of hg1 h0 (by simp <;> omega)
  have k1 := row_of hg1 h1 (by simp <;> omega)
  have k2 := row_of hg1 h2 (by simp <;> omega)
  have hsz1 := hg1.size
  clear h0 h1 h2 h3 hst
  have K0 := hid k0
  have K1 := hid k1
  have K2 := hid k2
  have HS := hid hst1
  obtain ⟨e1, hgz, hz0⟩ := hT.stores k0 (by rw [hcs]; rfl)
  have hlenz : (w1.setCells w.heap.size 0 cs).heap.size = w1.heap.size := setCells_size _ _ _ _
  have hz1 := row_of hgz K1.out (by simp)
  have hz2 := row_of hgz K2.out (by simp <;> omega)
  have hz3 : ∀ (k : Nat) (o : Obj), w1.heap[k]? = some o → k ≠ w.heap.size → (w1.setCells w.heap.size 0 cs).heap[k]? = some o := fun k o h hk => row_of hgz h (by simp <;> omega)
  generalize w1.setCells w.heap.size 0 cs = wz at *
  have E1 := hid e1
  have HT := hid hT
  have HR := hid hrep
  clear k0 k1 k2 hT hrep e1
  cases s' with
  | error er =>
    obtain ⟨v3, l3, ⟨he, he2, hrow⟩, _⟩ := hst1
    have z3 := hz3 _ _ hrow (by omega)
    obtain ⟨r0, r1, _, _⟩ := row2 z3
    have hne : ((er : Int) != 0) = true := by simp; omega
    have Z0 := hid hz0
    have Z1 := hid hz1
    have Z2 := hid hz2
    have Z3 := hid z3
    clear hrow hz0 hz1 hz2 hz3 z3
    go_wp2_with (refine wpList_store_ty rfl (.tmp 4) (.tmp 15) rfl rfl rfl E1.out ?_)
    refine read6 mixed true 103 _ _ _ _ 6 w.heap.size (w.heap.size + 1 + 1 + 1) w1.heap.size (.agg #[Value.string ⟨#[]⟩, Value.int .i64 0, Value.int .i64 0, Value.string ⟨#[]⟩]) er [(Value.string ⟨#[]⟩), (Value.int .i64 0), (Value.int .i64 0), (Value.string ⟨#[]⟩)] _ _ (wz.alloc (Obj.cells #[Value.string ⟨#[]⟩, Value.int .i64 0, Value.int .i64 0, Value.string ⟨#[]⟩] 103)) rfl rfl rfl rfl rfl rfl (fun _ => ⟨by omega, heap_at hlenz.symm⟩) ztyIdf tyS tyE ⟨_, by simp [hcs], (heap_past (by have := hgz.size; omega)).trans Z0.out⟩ ⟨_, (heap_past (by have := hgz.size; omega)).trans Z1.out⟩ ⟨_, (heap_past (by have := hgz.size; omega)).trans Z2.out⟩ (row2 ((heap_past (by have := hgz.size; have := (Array.getElem?_eq_some_iff.1 Z3.out).1; omega)).trans Z3.out)).2.1 (by omega) (fun w => field1 w _) ?_
    intro a w2 hres hd hs hl q0 q1 q2
    go_wp2
    obtain ⟨tmps, ds⟩ := a
    simp only at hd hs hl
    subst hd
    refine leaves_cons (f := 191) (args := #[.pointer (some ⟨w.heap.size, 0, none⟩), .pointer (some ⟨w.heap.size + 1, 0, none⟩), .pointer (some ⟨w.heap.size + 1 + 1, 0, none⟩)]) (by simp) (by simp [go_sem]) ?_
    refine (recIdf_walk _ _ _ _).mono ?_
    rintro e u' w'' ⟨rfl, rfl, rfl⟩
    have hrs := Res3.grown hWg hg1 (grown_trans hgz (World.grownBy_alloc wz (Obj.cells #[Value.string ⟨#[]⟩, Value.int .i64 0, Value.int .i64 0, Value.string ⟨#[]⟩] 103) _)) hres (by omega) rfl rfl
    exact ⟨_, results3 rfl (hl 4 (by decide)) (hl 5 (by decide)) (hl 6 (by decide)) ztyIdf (tyS none 0 0) (tyE er) q0 q1 q2, ReadPost.mkErr hrs hrel.err rfl he⟩
  | ok l' =>
    obtain ⟨v3, l3, ⟨rfl, hrow⟩, hsl, hvl, hlb, hll⟩ := hst1
    have z3 := hz3 _ _ hrow (by omega)
    obtain ⟨r0, r1, _, _⟩ := row2 z3
    have Z0 := hid hz0
    have Z1 := hid hz1
    have Z2 := hid hz2
    have Z3 := hid z3
    clear hrow hz0 hz1 hz2 hz3 z3
    go_wp2_with (refine wpList_store_ty rfl (.tmp 4) (.tmp 15) rfl rfl rfl E1.out ?_)
    refine read7 mixed 103 _ _ _ _ 165 7 w.heap.size (w.heap.size + 1 + 1 + 1) v1 v3 cs l' _ _ _ rfl rfl rfl rfl rfl HT.out tyS tyE Z0.out ⟨_, Z1.out⟩ ⟨_, Z2.out⟩ (row2 Z3.out).1 (by omega) (hsl.kept hgz (.inr (hvl.1.ne (Nat.le_refl _)))) hvl.1 (fun w => field0 w _) enterClone (fun w v hv => clone_walk v l' w hv hll) ?_
    intro a w2 hres hd hs hl q0 q1 q2
    go_wp2
    obtain ⟨tmps, ds⟩ := a
    simp only at hd hs hl
    subst hd
    refine leaves_cons (f := 191) (args := #[.pointer (some ⟨w.heap.size, 0, none⟩), .pointer (some ⟨w.heap.size + 1, 0, none⟩), .pointer (some ⟨w.heap.size + 1 + 1, 0, none⟩)]) (by simp) (by simp [go_sem]) ?_
    refine (recIdf_walk _ _ _ _).mono ?_
    rintro e u' w'' ⟨rfl, rfl, rfl⟩
    have hrs := Res3.grown hWg hg1 hgz hres (by omega) rfl rfl
    obtain ⟨v', q1, qs, qk⟩ := q1
    obtain ⟨ao', cap', rfl, _, _⟩ := qs.shape
    have hrep' : rep w.heap.size w'' v1 x := HMO.out _ _ _ _ _ HR.out (by have := hgz.size; have := hres.size; omega) (fun k hk1 hk2 => (hres.block k (by have := hgz.size; omega) (by omega) (by omega) (by omega)).trans (hgz.block k hk2 (by simp <;> omega))) _ (by omega)
    exact ⟨_, results3 rfl (hl 4 (by decide)) (hl 5 (by decide)) (hl 6 (by decide)) HT.out (tyS _ _ _) (tyE 0) q0 q1 q2, ReadPost.mkOk hrs hrel.ok rfl hrep' qs fun k hk => by have := qk k hk; have := hgz.size; omega⟩
end

/-! ## RdTLnk -/
section
open Go.RowKit

theorem ztyLnk : TY Try.prog 107 [(Value.string ⟨#[]⟩), (Value.int .i64 0), (Value.int .i64 0), (Value.string ⟨#[]⟩), (Value.string ⟨#[]⟩), (Value.int .i64 0), (Value.int .i64 0), (Value.string ⟨#[]⟩), (Value.int .i64 0), (Value.bool false)] (.agg #[Value.string ⟨#[]⟩, Value.int .i64 0, Value.int .i64 0, Value.string ⟨#[]⟩, Value.string ⟨#[]⟩, Value.int .i64 0, Value.int .i64 0, Value.string ⟨#[]⟩, Value.int .i64 0, Value.bool false]) := TY.agg Try.underlying107 rfl (by kernel_rfl) (by simp [Value.oneCell'])
set_option maxRecDepth 100000 in
theorem recLnk_walk (a b c : Value) (w : World) : CallsD Try.prog 189 #[a, b, c] .returning w fun e u' w' => e = .returned (.tuple #[]) ∧ u' = .returning ∧ w' = w := by
  refine callsD_of_wpS Try.func189 rfl fun c₀ cs hu => ?_
  apply wpS_seq
  apply wpS_region
  simp [wpOpsS, go_sem, recoverD, hu, Try.ntmps189]
  refine wpS_cond (t := false) rfl ?_
  refine wpS_of_wp (wp_skip ?_)
  cases c₀
  simp_all [bodyPostS, results, Try.results189]
set_option maxRecDepth 100000 in
set_option maxHeartbeats 1000000 in
theorem readLnk_walk {α : Type} (p : Parser α) (rep : Nat → World → Value → α → Prop) (v : Value) (xs : List Nat) (w : World) (hv : Sl w 1 v xs.length (bv xs)) (hl : xs.length ≤ 1099511627776) (hb : ∀ b ∈ xs, b < 256) (hvb : Lo v w.heap.size)
    (hF : ∀ (w : World) (R L : Nat) (s : St), RSt 201 L w R s → Calls Try.prog 149 #[.pointer (some ⟨R, 0, none⟩)] w (RdPost 201 L w R p s (rep w.heap.size)))
    (hTY : ∀ (L : Nat) (w : World) (v : Value) (x : α), rep L w v x → ∃ cs, TY Try.prog 107 cs v ∧ cs.length = 10)
    (hmono : ∀ (L : Nat) (w w' : World) (v : Value) (x : α), rep L w v x → w.heap.size ≤ w'.heap.size → (∀ k, L ≤ k → k < w.heap.size → w'.heap[k]? = w.heap[k]?) → ∀ L', L' ≤ L → rep L' w' v x) :
    Calls Try.prog 148 #[v, .func (.func 149) #[] #[]] w (ReadPost p xs (.agg #[Value.string ⟨#[]⟩, Value.int .i64 0, Value.int .i64 0, Value.string ⟨#[]⟩, Value.string ⟨#[]⟩, Value.int .i64 0, Value.int .i64 0, Value.string ⟨#[]⟩, Value.int .i64 0, Value.bool false]) rep w) := by
  obtain ⟨ao, cap, rfl, hnc, hcm⟩ := hv.shape
  have HF := hid hF
  have HTY := hid hTY
  have HMO := hid hmono
  clear hF hTY hmono
  have hmf : ∀ (fn : Fn) (first cap : Array Value) (w : World), (Instr.makeFunc fn first cap).run Try.prog w = .ok (.func fn first cap) w := fun _ _ _ _ => rfl
  go_enter_defers Try.func148, Try.ntmps148
  go_wp2_with fail
  generalize hW : (((w.alloc (Obj.cells #[Value.string ⟨#[]⟩, Value.int .i64 0, Value.int .i64 0, Value.string ⟨#[]⟩, Value.string ⟨#[]⟩, Value.int .i64 0, Value.int .i64 0, Value.string ⟨#[]⟩, Value.int .i64 0, Value.bool false] 107)).alloc (Obj.cells #[Value.slice none 0 0] 22)).alloc (Obj.cells #[Value.int IntKind.i64 0] 25)).alloc (Obj.cells #[Value.slice ao xs.length cap, Value.int IntKind.i64 0] 201) = W
  have hWg : w.grownBy W none := by rw [← hW]; exact grown_trans (grown_trans (grown_trans (World.grownBy_alloc _ _ _) (World.grownBy_alloc _ _ _)) (World.grownBy_alloc _ _ _)) (World.grownBy_alloc _ _ _)
  have h0 : W.heap[w.heap.size]? = some (.cells #[Value.string ⟨#[]⟩, Value.int .i64 0, Value.int .i64 0, Value.string ⟨#[]⟩, Value.string ⟨#[]⟩, Value.int .i64 0, Value.int .i64 0, Value.string ⟨#[]⟩, Value.int .i64 0, Value.bool false] 107 (0, 0)) := by rw [← hW, heap_past (by simp <;> omega), heap_past (by simp <;> omega), heap_past (by simp <;> omega), heap_at rfl]
  have h1 : W.heap[w.heap.size + 1]? = some (.cells #[.slice none 0 0] 22 (0, 0)) := by rw [← hW, heap_past (by simp <;> omega), heap_past (by simp <;> omega), heap_at (by simp <;> omega)]
  have h2 : W.heap[w.heap.size + 1 + 1]? = some (.cells #[.int .i64 0] 25 (0, 0)) := by rw [← hW, heap_past (by simp <;> omega), heap_at (by simp <;> omega)]
  have h3 : W.heap[w.heap.size + 1 + 1 + 1]? = some (.cells #[.slice ao xs.length cap, .int .i64 0] 201 (0, 0)) := by rw [← hW, heap_at (by simp <;> omega)]
  have hsz : W.heap.size = w.heap.size + 4 := by rw [← hW]; simp
  clear hW
  have hst : RSt 201 w.heap.size W (w.heap.size + 1 + 1 + 1) (.ok xs) := ⟨_, xs, ⟨rfl, h3⟩, hv.kept hWg (by cases h : (Value.slice ao xs.length cap).ownBlock <;> simp), ⟨hvb, by omega⟩, hb, hl⟩
  refine (HF.out _ _ _ _ hst).mono ?_
  rintro e w1 ⟨v1, x, s', rfl, hrep, hg1, hst1, hrel⟩
  obtain ⟨cs, hT, hcs⟩ := HTY.out _ _ _ _ hrep
  have k0 := row_of hg1 h0 (by simp <;> omega)
  have k1 := row_of hg1 h1 (by simp <;> omega)
  have k2 := row_of hg1 h2 (by simp <;> omega)
  have hsz1 := hg1.size
  clear h0 h1 h2 h3 hst
  have K0 := hid k0
  have K1 := hid k1
  have K2 := hid k2
  have HS := hid hst1
  obtain ⟨e1, hgz, hz0⟩ := hT.stores k0 (by rw [hcs]; rfl)
  have hlenz : (w1.setCells w.heap.size 0 cs).heap.size = w1.heap.size := setCells_size _ _ _ _
  have hz1 := row_of hgz K1.out (by simp)
  have hz2 := row_of hgz K2.out (by simp <;> omega)
  have hz3 : ∀ (k : Nat) (o : Obj), w1.heap[k]? = some o → k ≠ w.heap.size → (w1.setCells w.heap.size 0 cs).heap[k]? = some o := fun k o h hk => row_of hgz h (by simp <;> omega)
  generalize w1.setCells w.heap.size 0 cs = wz at *
  have E1 := hid e1
  have HT := hid hT
  have HR := hid hrep
  clear k0 k1 k2 hT hrep e1
  cases s' with
  | error er =>
    obtain ⟨v3, l3, ⟨he, he2, hrow⟩, _⟩ := hst1
    have z3 := hz3 _ _ hrow (by omega)
    obtain ⟨r0, r1, _, _⟩ := row2 z3
    have hne : ((er : Int) != 0) = true := by simp; omega
    have Z0 := hid hz0
    have Z1 := hid hz1
    have Z2 := hid hz2
    have Z3 := hid z3
    clear hrow hz0 hz1 hz2 hz3 z3
    go_wp2_with (refine wpList_store_ty rfl (.tmp 4) (.tmp 15) rfl rfl rfl E1.out ?_)
    refine read6 mixed true 107 _ _ _ _ 6 w.heap.size (w.heap.size + 1 + 1 + 1) w1.heap.size (.agg #[Value.string ⟨#[]⟩, Value.int .i64 0, Value.int .i64 0, Value.string ⟨#[]⟩, Value.string ⟨#[]⟩, Value.int .i64 0, Value.int .i64 0, Value.string ⟨#[]⟩, Value.int .i64 0, Value.bool false]) er [(Value.string ⟨#[]⟩), (Value.int .i64 0), (Value.int .i64 0), (Value.string ⟨#[]⟩), (Value.string ⟨#[]⟩), (Value.int .i64 0), (Value.int .i64 0), (Value.string ⟨#[]⟩), (Value.int .i64 0), (Value.bool false)] _ _ (wz.alloc (Obj.cells #[Value.string ⟨#[]⟩, Value.int .i64 0, Value.int .i64 0, Value.string ⟨#[]⟩, Value.string ⟨#[]⟩, Value.int .i64 0, Value.int .i64 0, Value.string ⟨#[]⟩, Value.int .i64 0, Value.bool false] 107)) rfl rfl rfl rfl rfl rfl (fun _ => ⟨by omega, heap_at hlenz.symm⟩) ztyLnk tyS tyE ⟨_, by simp [hcs], (heap_past (by have := hgz.size; omega)).trans Z0.out⟩ ⟨_, (heap_past (by have := hgz.size; omega)).trans Z1.out⟩ ⟨_, (heap_past (by have := hgz.size; omega)).trans Z2.out⟩ (row2 ((heap_past (by have := hgz.size; have := (Array.getElem?_eq_some_iff.1 Z3.out).1; omega)).trans Z3.out)).2.1 (by omega) (fun w => field1 w _) ?_
    intro a w2 hres hd hs hl q0 q1 q2
    go_wp2
    obtain ⟨tmps, ds⟩ := a
    simp only at hd hs hl
    subst hd
    refine leaves_cons (f := 189) (args := #[.pointer (some ⟨w.heap.size, 0, none⟩), .pointer (some ⟨w.heap.size + 1, 0, none⟩), .pointer (some ⟨w.heap.size + 1 + 1, 0, none⟩)]) (by simp) (by simp [go_sem]) ?_
    refine (recLnk_walk _ _ _ _).mono ?_
    rintro e u' w'' ⟨rfl, rfl, rfl⟩
    have hrs := Res3.grown hWg hg1 (grown_trans hgz (World.grownBy_alloc wz (Obj.cells #[Value.string ⟨#[]⟩, Value.int .i64 0, Value.int .i64 0, Value.string ⟨#[]⟩, Value.string ⟨#[]⟩, Value.int .i64 0, Value.int .i64 0, Value.string ⟨#[]⟩, Value.int .i64 0, Value.bool false] 107) _)) hres (by omega) rfl rfl
    exact ⟨_, results3 rfl (hl 4 (by decide)) (hl 5 (by decide)) (hl 6 (by decide)) ztyLnk (tyS none 0 0) (tyE er) q0 q1 q2, ReadPost.mkErr hrs hrel.err rfl he⟩
  | ok l' =>
    obtain ⟨v3, l3, ⟨rfl, hrow⟩, hsl, hvl, hlb, hll⟩ := hst1
    have z3 := hz3 _ _ hrow (by omega)
    obtain ⟨r0, r1, _, _⟩ := row2 z3
    have Z0 := hid hz0
    have Z1 := hid hz1
    have Z2 := hid hz2
    have Z3 := hid z3
    clear hrow hz0 hz1 hz2 hz3 z3
    go_wp2_with (refine wpList_store_ty rfl (.tmp 4) (.tmp 15) rfl rfl rfl E1.out ?_)
    refine read7 mixed 107 _ _ _ _ 165 7 w.heap.size (w.heap.size + 1 + 1 + 1) v1 v3 cs l' _ _ _ rfl rfl rfl rfl rfl HT.out tyS tyE Z0.out ⟨_, Z1.out⟩ ⟨_, Z2.out⟩ (row2 Z3.out).1 (by omega) (hsl.kept hgz (.inr (hvl.1.ne (Nat.le_refl _)))) hvl.1 (fun w => field0 w _) enterClone (fun w v hv => clone_walk v l' w hv hll) ?_
    intro a w2 hres hd hs hl q0 q1 q2
    go_wp2
    obtain ⟨tmps, ds⟩ := a
    simp only at hd hs hl
    subst hd
    refine leaves_cons (f := 189) (args := #[.pointer (some ⟨w.heap.size, 0, none⟩), .pointer (some ⟨w.heap.size + 1, 0, none⟩), .pointer (some ⟨w.heap.size + 1 + 1, 0, none⟩)]) (by simp) (by simp [go_sem]) ?_
    refine (recLnk_walk _ _ _ _).mono ?_
    rintro e u' w'' ⟨rfl, rfl, rfl⟩
    have hrs := Res3.grown hWg hg1 hgz hres (by omega) rfl rfl
    obtain ⟨v', q1, qs, qk⟩ := q1
    obtain ⟨ao', cap', rfl, _, _⟩ := qs.shape
    have hrep' : rep w.heap.size w'' v1 x := HMO.out _ _ _ _ _ HR.out (by have := hgz.size; have := hres.size; omega) (fun k hk1 hk2 => (hres.block k (by have := hgz.size; omega) (by omega) (by omega) (by omega)).trans (hgz.block k hk2 (by simp <;> omega))) _ (by omega)
    exact ⟨_, results3 rfl (hl 4 (by decide)) (hl 5 (by decide)) (hl 6 (by decide)) HT.out (tyS _ _ _) (tyE 0) q0 q1 q2, ReadPost.mkOk hrs hrel.ok rfl hrep' qs fun k hk => by have := qk k hk; have := hgz.size; omega⟩
end

/-! ## RdTHld -/
section
open Go.RowKit

theorem ztyHld : TY Try.prog 109 [(Value.int .i64 0), (Value.int .i64 0), (Value.string ⟨#[]⟩), (Value.int .i64 0), (Value.int .i64 0), (Value.string ⟨#[]⟩), (Value.int .i64 0), (Value.int .i64 0), (Value.int .i64 0)] (.agg #[Value.int .i64 0, Value.int .i64 0, Value.string ⟨#[]⟩, Value.int .i64 0, Value.int .i64 0, Value.string ⟨#[]⟩, Value.int .i64 0, Value.int .i64 0, Value.int .i64 0]) := TY.agg Try.underlying109 rfl (by kernel_rfl) (by simp [Value.oneCell'])
set_option maxRecDepth 100000 in
theorem recHld_walk (a b c : Value) (w : World) : CallsD Try.prog 190 #[a, b, c] .returning w fun e u' w' => e = .returned (.tuple #[]) ∧ u' = .returning ∧ w' = w := by
  refine callsD_of_wpS Try.func190 rfl fun c₀ cs hu => ?_
  apply wpS_seq
  apply wpS_region
  simp [wpOpsS, go_sem, recoverD, hu, Try.ntmps190]
  refine wpS_cond (t := false) rfl ?_
  refine wpS_of_wp (wp_skip ?_)
  cases c₀
  simp_all [bodyPostS, results, Try.results190]
set_option maxRecDepth 100000 in
set_option maxHeartbeats 1000000 in
theorem readHld_walk {α : Type} (p : Parser α) (rep : Nat → World → Value → α → Prop) (v : Value) (xs : List Nat) (w : World) (hv : Sl w 1 v xs.length (bv xs)) (hl : xs.length ≤ 1099511627776) (hb : ∀ b ∈ xs, b < 256) (hvb : Lo v w.heap.size)
    (hF : ∀ (w : World) (R L : Nat) (s : St), RSt 201 L w R s → Calls Try.prog 151 #[.pointer (some ⟨R, 0, none⟩)] w (RdPost 201 L w R p s (rep w.heap.size)))
    (hTY : ∀ (L : Nat) (w : World) (v : Value) (x : α), rep L w v x → ∃ cs, TY Try.prog 109 cs v ∧ cs.length = 9)
    (hmono : ∀ (L : Nat) (w w' : World) (v : Value) (x : α), rep L w v x → w.heap.size ≤ w'.heap.size → (∀ k, L ≤ k → k < w.heap.size → w'.heap[k]? = w.heap[k]?) → ∀ L', L' ≤ L → rep L' w' v x) :
    Calls Try.prog 150 #[v, .func (.func 151) #[] #[]] w (ReadPost p xs (.agg #[Value.int .i64 0, Value.int .i64 0, Value.string ⟨#[]⟩, Value.int .i64 0, Value.int .i64 0, Value.string ⟨#[]⟩, Value.int .i64 0, Value.int .i64 0, Value.int .i64 0]) rep w) := by
  obtain ⟨ao, cap, rfl, hnc, hcm⟩ := hv.shape
  have HF := hid hF
  have HTY := hid hTY
  have HMO := hid hmono
  clear hF hTY hmono
  have hmf : ∀ (fn : Fn) (first cap : Array Value) (w : World), (Instr.makeFunc fn first cap).run Try.prog w = .ok (.func fn first cap) w := fun _ _ _ _ => rfl
  go_enter_defers Try.func150, Try.ntmps150
  go_wp2_with fail
  generalize hW : (((w.alloc (Obj.cells #[Value.int .i64 0, Value.int .i64 0, Value.string ⟨#[]⟩, Value.int .i64 0, Value.int .i64 0, Value.string ⟨#[]⟩, Value.int .i64 0, Value.int .i64 0, Value.int .i64 0] 109)).alloc (Obj.cells #[Value.slice none 0 0] 22)).alloc (Obj.cells #[Value.int IntKind.i64 0] 25)).alloc (Obj.cells #[Value.slice ao xs.length cap, Value.int IntKind.i64 0] 201) = W
  have hWg : w.grownBy W none := by rw [← hW]; exact grown_trans (grown_trans (grown_trans (World.grownBy_alloc _ _ _) (World.grownBy_alloc _ _ _)) (World.grownBy_alloc _ _ _)) (World.grownBy_alloc _ _ _)
  have h0 : W.heap[w.heap.size]? = some (.cells #[Value.int .i64 0, Value.int .i64 0, Value.string ⟨#[]⟩, Value.int .i64 0, Value.int .i64 0, Value.string ⟨#[]⟩, Value.int .i64 0, Value.int .i64 0, Value.int .i64 0] 109 (0, 0)) := by rw [← hW, heap_past (by simp <;> omega), heap_past (by simp <;> omega), heap_past (by simp <;> omega), heap_at rfl]
  have h1 : W.heap[w.heap.size + 1]? = some (.cells #[.slice none 0 0] 22 (0, 0)) := by rw [← hW, heap_past (by simp <;> omega), heap_past (by simp <;> omega), heap_at (by simp <;> omega)]
  have h2 : W.heap[w.heap.size + 1 + 1]? = some (.cells #[.int .i64 0] 25 (0, 0)) := by rw [← hW, heap_past (by simp <;> omega), heap_at (by simp <;> omega)]
  have h3 : W.heap[w.heap.size + 1 + 1 + 1]? = some (.cells #[.slice ao xs.length cap, .int .i64 0] 201 (0, 0)) := by rw [← hW, heap_at (by simp <;> omega)]
  have hsz : W.heap.size = w.heap.size + 4 := by rw [← hW]; simp
  clear hW
  have hst : RSt 201 w.heap.size W (w.heap.size + 1 + 1 + 1) (.ok xs) := ⟨_, xs, ⟨rfl, h3⟩, hv.kept hWg (by cases h : (Value.slice ao xs.length cap).ownBlock <;> simp), ⟨hvb, by omega⟩, hb, hl⟩
  refine (HF.out _ _ _ _ hst).mono ?_
  rintro e w1 ⟨v1, x, s', rfl, hrep, hg1, hst1, hrel⟩
  obtain ⟨cs, hT, hcs⟩ := HTY.out _ _ _ _ hrep
  have k0 := row_of hg1 h0 (by simp <;> omega)
  have k1 := row_of hg1 h1 (by simp <;> omega)
  have k2 := row_of hg1 h2 (by simp <;> omega)
  have hsz1 := hg1.size
  clear h0 h1 h2 h3 hst
  have K0 := hid k0
  have K1 := hid k1
  have K2 := hid k2
  have HS := hid hst1
  obtain ⟨e1, hgz, hz0⟩ := hT.stores k0 (by rw [hcs]; rfl)
  have hlenz : (w1.setCells w.heap.size 0 cs).heap.size = w1.heap.size := setCells_size _ _ _ _
  have hz1 := row_of hgz K1.out (by simp)
  have hz2 := row_of hgz K2.out (by simp <;> omega)
  have hz3 : ∀ (k : Nat) (o : Obj), w1.heap[k]? = some o → k ≠ w.heap.size → (w1.setCells w.heap.size 0 cs).heap[k]? = some o := fun k o h hk => row_of hgz h (by simp <;> omega)
  generalize w1.setCells w.heap.size 0 cs = wz at *
  have E1 := hid e1
  have HT := hid hT
  have HR := hid hrep
  clear k0 k1 k2 hT hrep e1
  cases s' with
  | error er =>
    obtain ⟨v3, l3, ⟨he, he2, hrow⟩, _⟩ := hst1
    have z3 := hz3 _ _ hrow (by omega)
    obtain ⟨r0, r1, _, _⟩ := row2 z3
    have hne : ((er : Int) != 0) = true := by simp; omega
    have Z0 := hid hz0
    have Z1 := hid hz1
    have Z2 := hid hz2
    have Z3 := hid z3
    clear hrow hz0 hz1 hz2 hz3 z3
    go_wp2_with (refine wpList_store_ty rfl (.tmp 4) (.tmp 15) rfl rfl rfl E1.out ?_)
    refine read6 mixed true 109 _ _ _ _ 6 w.heap.size (w.heap.size + 1 + 1 + 1) w1.heap.size (.agg #[Value.int .i64 0, Value.int .i64 0, Value.string ⟨#[]⟩, Value.int .i64 0, Value.int .i64 0, Value.string ⟨#[]⟩, Value.int .i64 0, Value.int .i64 0, Value.int .i64 0]) er [(Value.int .i64 0), (Value.int .i64 0), (Value.string ⟨#[]⟩), (Value.int .i64 0), (Value.int .i64 0), (Value.string ⟨#[]⟩), (Value.int .i64 0), (Value.int .i64 0), (Value.int .i64 0)] _ _ (wz.alloc (Obj.cells #[Value.int .i64 0, Value.int .i64 0, Value.string ⟨#[]⟩, Value.int .i64 0, Value.int .i64 0, Value.string ⟨#[]⟩, Value.int .i64 0, Value.int .i64 0, Value.int .i64 0] 109)) rfl rfl rfl rfl rfl rfl (fun _ => ⟨by omega, heap_at hlenz.symm⟩) ztyHld tyS tyE ⟨_, by simp [hcs], (heap_past (by have := hgz.size; omega)).trans Z0.out⟩ ⟨_, (heap_past (by have := hgz.size; omega)).trans Z1.out⟩ ⟨_, (heap_past (by have := hgz.size; omega)).trans Z2.out⟩ (row2 ((heap_past (by have := hgz.size; have := (Array.getElem?_eq_some_iff.1 Z3.out).1; omega)).trans Z3.out)).2.1 (by omega) (fun w => field1 w _) ?_
    intro a w2 hres hd hs hl q0 q1 q2
    go_wp2
    obtain ⟨tmps, ds⟩ := a
    simp only at hd hs hl
    subst hd
    refine leaves_cons (f := 190) (args := #[.pointer (some ⟨w.heap.size, 0, none⟩), .pointer (some ⟨w.heap.size + 1, 0, none⟩), .pointer (some ⟨w.heap.size + 1 + 1, 0, none⟩)]) (by simp) (by simp [go_sem]) ?_
    refine (recHld_walk _ _ _ _).mono ?_
    rintro e u' w'' ⟨rfl, rfl, rfl⟩
    have hrs := Res3.grown hWg hg1 (grown_trans hgz (World.grownBy_alloc wz (Obj.cells #[Value.int .i64 0, Value.int .i64 0, Value.string ⟨#[]⟩, Value.int .i64 0, Value.int .i64 0, Value.string ⟨#[]⟩, Value.int .i64 0, Value.int .i64 0, Value.int .i64 0] 109) _)) hres (by omega) rfl rfl
    exact ⟨_, results3 rfl (hl 4 (by decide)) (hl 5 (by decide)) (hl 6 (by decide)) ztyHld (tyS none 0 0) (tyE er) q0 q1 q2, ReadPost.mkErr hrs hrel.err rfl he⟩
  | ok l' =>
    obtain ⟨v3, l3, ⟨rfl, hrow⟩, hsl, hvl, hlb, hll⟩ := hst1
    have z3 := hz3 _ _ hrow (by omega)
    obtain ⟨r0, r1, _, _⟩ := row2 z3
    have Z0 := hid hz0
    have Z1 := hid hz1
    have Z2 := hid hz2
    have Z3 := hid z3
    clear hrow hz0 hz1 hz2 hz3 z3
    go_wp2_with (refine wpList_store_ty rfl (.tmp 4) (.tmp 15) rfl rfl rfl E1.out ?_)
    refine read7 mixed 109 _ _ _ _ 165 7 w.heap.size (w.heap.size + 1 + 1 + 1) v1 v3 cs l' _ _ _ rfl rfl rfl rfl rfl HT.out tyS tyE Z0.out ⟨_, Z1.out⟩ ⟨_, Z2.out⟩ (row2 Z3.out).1 (by omega) (hsl.kept hgz (.inr (hvl.1.ne (Nat.le_refl _)))) hvl.1 (fun w => field0 w _) enterClone (fun w v hv => clone_walk v l' w hv hll) ?_
    intro a w2 hres hd hs hl q0 q1 q2
    go_wp2
    obtain ⟨tmps, ds⟩ := a
    simp only at hd hs hl
    subst hd
    refine leaves_cons (f := 190) (args := #[.pointer (some ⟨w.heap.size, 0, none⟩), .pointer (some ⟨w.heap.size + 1, 0, none⟩), .pointer (some ⟨w.heap.size + 1 + 1, 0, none⟩)]) (by simp) (by simp [go_sem]) ?_
    refine (recHld_walk _ _ _ _).mono ?_
    rintro e u' w'' ⟨rfl, rfl, rfl⟩
    have hrs := Res3.grown hWg hg1 hgz hres (by omega) rfl rfl
    obtain ⟨v', q1, qs, qk⟩ := q1
    obtain ⟨ao', cap', rfl, _, _⟩ := qs.shape
    have hrep' : rep w.heap.size w'' v1 x := HMO.out _ _ _ _ _ HR.out (by have := hgz.size; have := hres.size; omega) (fun k hk1 hk2 => (hres.block k (by have := hgz.size; omega) (by omega) (by omega) (by omega)).trans (hgz.block k hk2 (by simp <;> omega))) _ (by omega)
    exact ⟨_, results3 rfl (hl 4 (by decide)) (hl 5 (by decide)) (hl 6 (by decide)) HT.out (tyS _ _ _) (tyE 0) q0 q1 q2, ReadPost.mkOk hrs hrel.ok rfl hrep' qs fun k hk => by have := qk k hk; have := hgz.size; omega⟩
end

/-! ## RdTReq -/
section
open Go.RowKit

theorem ztyReq : TY Try.prog 105 [(Value.int .i64 0), (Value.string ⟨#[]⟩), (Value.int .i64 0), (Value.int .i64 0), (Value.string ⟨#[]⟩), (Value.int .i64 0), (Value.int .i64 0), (Value.int .i64 0)] (.agg #[Value.int .i64 0, Value.string ⟨#[]⟩, Value.int .i64 0, Value.int .i64 0, Value.string ⟨#[]⟩, Value.int .i64 0, Value.int .i64 0, Value.int .i64 0]) := TY.agg Try.underlying105 rfl (by kernel_rfl) (by simp [Value.oneCell'])
set_option maxRecDepth 100000 in
theorem recReq_walk (a b c : Value) (w : World) : CallsD Try.prog 188 #[a, b, c] .returning w fun e u' w' => e = .returned (.tuple #[]) ∧ u' = .returning ∧ w' = w := by
  refine callsD_of_wpS Try.func188 rfl fun c₀ cs hu => ?_
  apply wpS_seq
  apply wpS_region
  simp [wpOpsS, go_sem, recoverD, hu, Try.ntmps188]
  refine wpS_cond (t := false) rfl ?_
  refine wpS_of_wp (wp_skip ?_)
  cases c₀
  simp_all [bodyPostS, results, Try.results188]
set_option maxRecDepth 100000 in
set_option maxHeartbeats 1000000 in
theorem readReq_walk {α : Type} (p : Parser α) (rep : Nat → World → Value → α → Prop) (v : Value) (xs : List Nat) (w : World) (hv : Sl w 1 v xs.length (bv xs)) (hl : xs.length ≤ 1099511627776) (hb : ∀ b ∈ xs, b < 256) (hvb : Lo v w.heap.size)
    (hF : ∀ (w : World) (R L : Nat) (s : St), RSt 201 L w R s → Calls Try.prog 147 #[.pointer (some ⟨R, 0, none⟩)] w (RdPost 201 L w R p s (rep w.heap.size)))
    (hTY : ∀ (L : Nat) (w : World) (v : Value) (x : α), rep L w v x → ∃ cs, TY Try.prog 105 cs v ∧ cs.length = 8)
    (hmono : ∀ (L : Nat) (w w' : World) (v : Value) (x : α), rep L w v x → w.heap.size ≤ w'.heap.size → (∀ k, L ≤ k → k < w.heap.size → w'.heap[k]? = w.heap[k]?) → ∀ L', L' ≤ L → rep L' w' v x) :
    Calls Try.prog 146 #[v, .func (.func 147) #[] #[]] w (ReadPost p xs (.agg #[Value.int .i64 0, Value.string ⟨#[]⟩, Value.int .i64 0, Value.int .i64 0, Value.string ⟨#[]⟩, Value.int .i64 0, Value.int .i64 0, Value.int .i64 0]) rep w) := by
  obtain ⟨ao, cap, rfl, hnc, hcm⟩ := hv.shape
  have HF := hid hF
  have HTY := hid hTY
  have HMO := hid hmono
  clear hF hTY hmono
  have hmf : ∀ (fn : Fn) (first cap : Array Value) (w : World), (Instr.makeFunc fn first cap).run Try.prog w = .ok (.func fn first cap) w := fun _ _ _ _ => rfl
  go_enter_defers Try.func146, Try.ntmps146
  go_wp2_with fail
  generalize hW : (((w.alloc (Obj.cells #[Value.int .i64 0, Value.string ⟨#[]⟩, Value.int .i64 0, Value.int .i64 0, Value.string ⟨#[]⟩, Value.int .i64 0, Value.int .i64 0, Value.int .i64 0] 105)).alloc (Obj.cells #[Value.slice none 0 0] 22)).alloc (Obj.cells #[Value.int IntKind.i64 0] 25)).alloc (Obj.cells #[Value.slice ao xs.length cap, Value.int IntKind.i64 0] 201) = W
  have hWg : w.grownBy W none := by rw [← hW]; exact grown_trans (grown_trans (grown_trans (World.grownBy_alloc _ _ _) (World.grownBy_alloc _ _ _)) (World.grownBy_alloc _ _ _)) (World.grownBy_alloc _ _ _)
  have h0 : W.heap[w.heap.size]? = some (.cells #[Value.int .i64 0, Value.string ⟨#[]⟩, Value.int .i64 0, Value.int .i64 0, Value.string ⟨#[]⟩, Value.int .i64 0, Value.int .i64 0, Value.int .i64 0] 105 (0, 0)) := by rw [← hW, heap_past (by simp <;> omega), heap_past (by simp <;> omega), heap_past (by simp <;> omega), heap_at rfl]
  have h1 : W.heap[w.heap.size + 1]? = some (.cells #[.slice none 0 0] 22 (0, 0)) := by rw [← hW, heap_past (by simp <;> omega), heap_past (by simp <;> omega), heap_at (by simp <;> omega)]
  have h2 : W.heap[w.heap.size + 1 + 1]? = some (.cells #[.int .i64 0] 25 (0, 0)) := by rw [← hW, heap_past (by simp <;> omega), heap_at (by simp <;> omega)]
  have h3 : W.heap[w.heap.size + 1 + 1 + 1]? = some (.cells #[.slice ao xs.length cap, .int .i64 0] 201 (0, 0)) := by rw [← hW, heap_at (by simp <;> omega)]
  have hsz : W.heap.size = w.heap.size + 4 := by rw [← hW]; simp
  clear hW
  have hst : RSt 201 w.heap.size W (w.heap.size + 1 + 1 + 1) (.ok xs) := ⟨_, xs, ⟨rfl, h3⟩, hv.kept hWg (by cases h : (Value.slice ao xs.length cap).ownBlock <;> simp), ⟨hvb, by omega⟩, hb, hl⟩
  refine (HF.out _ _ _ _ hst).mono ?_
  rintro e w1 ⟨v1, x, s', rfl, hrep, hg1, hst1, hrel⟩
  obtain ⟨cs, hT, hcs⟩ := HTY.out _ _ _ _ hrep
  have k0 := row_of hg1 h0 (by simp <;> omega)
  have k1 := row_of hg1 h1 (by simp <;> omega)
  have k2 := row_of hg1 h2 (by simp <;> omega)
  have hsz1 := hg1.size
  clear h0 h1 h2 h3 hst
  have K0 := hid k0
  have K1 := hid k1
  have K2 := hid k2
  have HS := hid hst1
  obtain ⟨e1, hgz, hz0⟩ := hT.stores k0 (by rw [hcs]; rfl)
  have hlenz : (w1.setCells w.heap.size 0 cs).heap.size = w1.heap.size := setCells_size _ _ _ _
  have hz1 := row_of hgz K1.out (by simp)
  have hz2 := row_of hgz K2.out (by simp <;> omega)
  have hz3 : ∀ (k : Nat) (o : Obj), w1.heap[k]? = some o → k ≠ w.heap.size → (w1.setCells w.heap.size 0 cs).heap[k]? = some o := fun k o h hk => row_of hgz h (by simp <;> omega)
  generalize w1.setCells w.heap.size 0 cs = wz at *
  have E1 := hid e1
  have HT := hid hT
  have HR := hid hrep
  clear k0 k1 k2 hT hrep e1
  cases s' with
  | error er =>
    obtain ⟨v3, l3, ⟨he, he2, hrow⟩, _⟩ := hst1
    have z3 := hz3 _ _ hrow (by omega)
    obtain ⟨r0, r1, _, _⟩ := row2 z3
    have hne : ((er : Int) != 0) = true := by simp; omega
    have Z0 := hid hz0
    have Z1 := hid hz1
    have Z2 := hid hz2
    have Z3 := hid z3
    clear hrow hz0 hz1 hz2 hz3 z3
    go_wp2_with (refine wpList_store_ty rfl (.tmp 4) (.tmp 15) rfl rfl rfl E1.out ?_)
    refine read6 mixed true 105 _ _ _ _ 6 w.heap.size (w.heap.size + 1 + 1 + 1) w1.heap.size (.agg #[Value.int .i64 0, Value.string ⟨#[]⟩, Value.int .i64 0, Value.int .i64 0, Value.string ⟨#[]⟩, Value.int .i64 0, Value.int .i64 0, Value.int .i64 0]) er [(Value.int .i64 0), (Value.string ⟨#[]⟩), (Value.int .i64 0), (Value.int .i64 0), (Value.string ⟨#[]⟩), (Value.int .i64 0), (Value.int .i64 0), (Value.int .i64 0)] _ _ (wz.alloc (Obj.cells #[Value.int .i64 0, Value.string ⟨#[]⟩, Value.int .i64 0, Value.int .i64 0, Value.string ⟨#[]⟩, Value.int .i64 0, Value.int .i64 0, Value.int .i64 0] 105)) rfl rfl rfl rfl rfl rfl (fun _ => ⟨by omega, heap_at hlenz.symm⟩) ztyReq tyS tyE ⟨_, by simp [hcs], (heap_past (by have := hgz.size; omega)).trans Z0.out⟩ ⟨_, (heap_past (by have := hgz.size; omega)).trans Z1.out⟩ ⟨_, (heap_past (by have := hgz.size; omega)).trans Z2.out⟩ (row2 ((heap_past (by have := hgz.size; have := (Array.getElem?_eq_some_iff.1 Z3.out).1; omega)).trans Z3.out)).2.1 (by omega) (fun w => field1 w _) ?_
    intro a w2 hres hd hs hl q0 q1 q2
    go_wp2
    obtain ⟨tmps, ds⟩ := a
    simp only at hd hs hl
    subst hd
    refine leaves_cons (f := 188) (args := #[.pointer (some ⟨w.heap.size, 0, none⟩), .pointer (some ⟨w.heap.size + 1, 0, none⟩), .pointer (some ⟨w.heap.size + 1 + 1, 0, none⟩)]) (by simp) (by simp [go_sem]) ?_
    refine (recReq_walk _ _ _ _).mono ?_
    rintro e u' w'' ⟨rfl, rfl, rfl⟩
    have hrs := Res3.grown hWg hg1 (grown_trans hgz (World.grownBy_alloc wz (Obj.cells #[Value.int .i64 0, Value.string ⟨#[]⟩, Value.int .i64 0, Value.int .i64 0, Value.string ⟨#[]⟩, Value.int .i64 0, Value.int .i64 0, Value.int .i64 0] 105) _)) hres (by omega) rfl rfl
    exact ⟨_, results3 rfl (hl 4 (by decide)) (hl 5 (by decide)) (hl 6 (by decide)) ztyReq (tyS none 0 0) (tyE er) q0 q1 q2, ReadPost.mkErr hrs hrel.err rfl he⟩
  | ok l' =>
    obtain ⟨v3, l3, ⟨rfl, hrow⟩, hsl, hvl, hlb, hll⟩ := hst1
    have z3 := hz3 _ _ hrow (by omega)
    obtain ⟨r0, r1, _, _⟩ := row2 z3
    have Z0 := hid hz0
    have Z1 := hid hz1
    have Z2 := hid hz2
    have Z3 := hid z3
    clear hrow hz0 hz1 hz2 hz3 z3
    go_wp2_with (refine wpList_store_ty rfl (.tmp 4) (.tmp 15) rfl rfl rfl E1.out ?_)
    refine read7 mixed 105 _ _ _ _ 165 7 w.heap.size (w.heap.size + 1 + 1 + 1) v1 v3 cs l' _ _ _ rfl rfl rfl rfl rfl HT.out tyS tyE Z0.out ⟨_, Z1.out⟩ ⟨_, Z2.out⟩ (row2 Z3.out).1 (by omega) (hsl.kept hgz (.inr (hvl.1.ne (Nat.le_refl _)))) hvl.1 (fun w => field0 w _) enterClone (fun w v hv => clone_walk v l' w hv hll) ?_
    intro a w2 hres hd hs hl q0 q1 q2
    go_wp2
    obtain ⟨tmps, ds⟩ := a
    simp only at hd hs hl
    subst hd
    refine leaves_cons (f := 188) (args := #[.pointer (some ⟨w.heap.size, 0, none⟩), .pointer (some ⟨w.heap.size + 1, 0, none⟩), .pointer (some ⟨w.heap.size + 1 + 1, 0, none⟩)]) (by simp) (by simp [go_sem]) ?_
    refine (recReq_walk _ _ _ _).mono ?_
    rintro e u' w'' ⟨rfl, rfl, rfl⟩
    have hrs := Res3.grown hWg hg1 hgz hres (by omega) rfl rfl
    obtain ⟨v', q1, qs, qk⟩ := q1
    obtain ⟨ao', cap', rfl, _, _⟩ := qs.shape
    have hrep' : rep w.heap.size w'' v1 x := HMO.out _ _ _ _ _ HR.out (by have := hgz.size; have := hres.size; omega) (fun k hk1 hk2 => (hres.block k (by have := hgz.size; omega) (by omega) (by omega) (by omega)).trans (hgz.block k hk2 (by simp <;> omega))) _ (by omega)
    exact ⟨_, results3 rfl (hl 4 (by decide)) (hl 5 (by decide)) (hl 6 (by decide)) HT.out (tyS _ _ _) (tyE 0) q0 q1 q2, ReadPost.mkOk hrs hrel.ok rfl hrep' qs fun k hk => by have := qk k hk; have := hgz.size; omega⟩
end

end Go.Proofs.Ytkeiffccllfkpaa
