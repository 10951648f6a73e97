/- read at int64 and ReadInt. -/
import Derived.Test.YtkeiffccllfkpaaRead6
import Derived.Test.YtkeiffccllfkpaaData
namespace Go.Proofs.Ytkeiffccllfkpaa
open Go.RowKit

theorem heap_at {w : World} {o : Obj} {n : Nat} (h : n = w.heap.size) : (w.alloc o).heap[n]? = some o := by subst h; exact Go.heap_alloc_new w o
theorem heap_past {w : World} {o : Obj} {n : Nat} (h : n < w.heap.size) : (w.alloc o).heap[n]? = w.heap[n]? := Below.heap_alloc w o n h
theorem row1 {w : World} {R : Nat} {T : TypeId} {a : Value} (h : w.heap[R]? = some (.cells #[a] T (0, 0))) : w.cell? ⟨R, 0, none⟩ = some a ∧ w.frozen? ⟨R, 0, none⟩ = false :=
  ⟨by rw [cell_of_row w R 0 _ T _ h]; rfl, frozen_of_row w R 0 _ T h⟩
theorem mixed : Try.prog.follows .mixedOrders = true := by kernel_rfl
theorem tyS : ∀ ao n c, TY Try.prog 22 [.slice ao n c] (.slice ao n c) := fun _ _ _ => TY.one' Try.underlying22 rfl (by kernel_rfl) rfl
theorem tyE : ∀ n, TY Try.prog 25 [.int .i64 n] (.int .i64 n) := fun _ => TY.one' Try.underlying25 rfl (by kernel_rfl) rfl
theorem ty64 : ∀ n, TY Try.prog 2 [.int .i64 n] (.int .i64 n) := fun _ => TY.one' Try.underlying2 rfl (by kernel_rfl) rfl
theorem field0 : ∀ w R, (Instr.fieldAt 201 (ptr R) 0).run Try.prog w = .ok (ptr R) w := fun w R => by unfold ptr; go_simp
theorem field1 : ∀ w R, (Instr.fieldAt 201 (ptr R) 1).run Try.prog w = .ok (.pointer (some ⟨R, 1, none⟩)) w := fun w R => by unfold ptr; go_simp
theorem enter_of {P : Program} {f : Nat} {fn : Func} {c : Code} (hf : P.funcs[f]? = some fn) (hname : (fn.name == "runtime.NumGoroutine") = false) (hb : fn.body = some c) :
    ∀ (av : Array Value) (w : World), ((Deferred.ofValue (.func (.func f) #[] #[]) av).run P w).andThen (fun a w' => (invoke a.target a.args).run P w') = .ok (.enter f av) w := by
  intro av w
  have h1 : fn.name ≠ "runtime.NumGoroutine" := by simpa using hname
  simp [Deferred.ofValue, invoke, callFunc, hf, h1, hb]
theorem enterClone : ∀ (av : Array Value) (w : World), ((Deferred.ofValue (.func (.func 165) #[] #[]) av).run Try.prog w).andThen (fun a w' => (invoke a.target a.args).run Try.prog w') = .ok (.enter 165 av) w :=
  enter_of Try.func165 (by kernel_rfl) rfl
theorem results3 {P : Program} {fn : Func} {p q r : Tmp} {T S E : TypeId} (h : fn.results = #[.cell p T, .cell q S, .cell r E]) {tmps : Array Value} {w : World} {b0 b1 b2 : Nat} {c0 c1 c2 : List Value} {v0 v1 v2 : Value} {fr0 fr1 fr2 : Nat × Nat} {u0 u1 u2 : TypeId}
    (hp : tmps.getD p undef = ptr b0) (hq : tmps.getD q undef = ptr b1) (hr : tmps.getD r undef = ptr b2) (t0 : TY P T c0 v0) (t1 : TY P S c1 v1) (t2 : TY P E c2 v2)
    (h0 : w.heap[b0]? = some (.cells c0.toArray u0 fr0)) (h1 : w.heap[b1]? = some (.cells c1.toArray u1 fr1)) (h2 : w.heap[b2]? = some (.cells c2.toArray u2 fr2)) :
    (results fn tmps).run P w = .ok (.tuple #[v0, v1, v2]) w := by
  have e0 := t0.load w b0 0 (rangeAt_row h0)
  have e1 := t1.load w b1 0 (rangeAt_row h1)
  have e2 := t2.load w b2 0 (rangeAt_row h2)
  have hp' : tmps[p]?.getD undef = .pointer (some ⟨b0, 0, none⟩) := by simpa [ptr] using hp
  have hq' : tmps[q]?.getD undef = .pointer (some ⟨b1, 0, none⟩) := by simpa [ptr] using hq
  have hr' : tmps[r]?.getD undef = .pointer (some ⟨b2, 0, none⟩) := by simpa [ptr] using hr
  simp [results, h, hp', hq', hr', asAddr, e0, e1, e2]

set_option maxRecDepth 100000 in
theorem rec64_walk (a b c : Value) (w : World) : CallsD Try.prog 164 #[a, b, c] .returning w fun e u' w' => e = .returned (.tuple #[]) ∧ u' = .returning ∧ w' = w := by
  refine callsD_of_wpS Try.func164 rfl fun c₀ cs hu => ?_
  apply wpS_seq
  apply wpS_region
  simp [wpOpsS, go_sem, recoverD, hu, Try.ntmps164]
  refine wpS_cond (t := false) rfl ?_
  refine wpS_of_wp (wp_skip ?_)
  cases c₀
  simp_all [bodyPostS, results, Try.results164]
/-- what a function Read leaves: the datum and what follows it, in new memory, or zero, nil and the error -/
def ReadPost {α : Type} (p : Parser α) (xs : List Nat) (zero : Value) (rep : Nat → World → Value → α → Prop) (w : World) (en : Ending) (w' : World) : Prop :=
  w.grownBy w' none ∧ match p xs with
  | .ok (x, r) => ∃ v rv, en = .returned (.tuple #[v, rv, .int .i64 0]) ∧ rep w.heap.size w' v x ∧ Sl w' 1 rv r.length (bv r) ∧ ∀ k, rv.ownBlock = some k → w.heap.size ≤ k
  | .error n => en = .returned (.tuple #[zero, nilS, .int .i64 n]) ∧ n ≠ 0

theorem ReadPost.mkErr {α : Type} {p : Parser α} {xs : List Nat} {zero : Value} {rep : Nat → World → Value → α → Prop} {w w' : World} {en : Ending} {n : Nat} (hg : w.grownBy w' none) (hp : p xs = .error n) (he : en = .returned (.tuple #[zero, nilS, .int .i64 n])) (hn : n ≠ 0) : ReadPost p xs zero rep w en w' := by
  unfold ReadPost
  rw [hp]
  exact ⟨hg, he, hn⟩
theorem ReadPost.mkOk {α : Type} {p : Parser α} {xs r : List Nat} {zero : Value} {rep : Nat → World → Value → α → Prop} {w w' : World} {en : Ending} {x : α} {v rv : Value} (hg : w.grownBy w' none) (hp : p xs = .ok (x, r)) (he : en = .returned (.tuple #[v, rv, .int .i64 0]))
    (hr : rep w.heap.size w' v x) (hs : Sl w' 1 rv r.length (bv r)) (hk : ∀ k, rv.ownBlock = some k → w.heap.size ≤ k) : ReadPost p xs zero rep w en w' := by
  unfold ReadPost
  rw [hp]
  exact ⟨hg, v, rv, he, hr, hs, hk⟩
/-- the whole way: new blocks, the reader's, a result's, all three results: nothing that was there has turned -/
theorem Res3.grown {w W w1 wz w2 : World} {R B B' : Nat} (h1 : w.grownBy W none) (h2 : W.grownBy w1 (some R)) (h3 : w1.grownBy wz (some B')) (h4 : Res3 wz w2 B) (hR : w.heap.size ≤ R) (hB : B = w.heap.size) (hB' : B' = w.heap.size) : w.grownBy w2 none := by
  subst hB hB'
  refine ⟨h4.os.trans (h3.os.trans (h2.os.trans h1.os)), h4.tape.trans (h3.tape.trans (h2.tape.trans h1.tape)), h4.output.trans (h3.output.trans (h2.output.trans h1.output)), Nat.le_trans h1.size (Nat.le_trans h2.size (Nat.le_trans h3.size h4.size)), fun i hi _ => ?_⟩
  have s1 := h1.size
  have s2 := h2.size
  have s3 := h3.size
  exact (h4.block i (by omega) (by omega) (by omega) (by omega)).trans ((h3.block i (by omega) (by simp; omega)).trans ((h2.block i (by omega) (by simp; omega)).trans (h1.block i hi (by simp))))
set_option maxRecDepth 100000 in
theorem read64_walk (v : Value) (xs : List Nat) (w : World) (hv : Sl w 1 v xs.length (bv xs)) (hl : xs.length ≤ 1099511627776) (hb : ∀ b ∈ xs, b < 256) (hvb : Lo v w.heap.size) :
    Calls Try.prog 90 #[v, .func (.func 91) #[] #[]] w (ReadPost pInt xs (.int .i64 0) (fun _ => repInt) w) := by
  obtain ⟨ao, cap, rfl, hnc, hcm⟩ := hv.shape
  have hmf : ∀ (fn : Fn) (first cap : Array Value) (w : World), (Instr.makeFunc fn first cap).run Try.prog w = .ok (.func fn first cap) w := fun _ _ _ _ => rfl
  go_enter_defers Try.func90, Try.ntmps90
  go_wp2_with fail
  generalize hW : (((w.alloc (Obj.cells #[Value.int IntKind.i64 0] 2)).alloc (Obj.cells #[Value.slice none 0 0] 22)).alloc (Obj.cells #[Value.int IntKind.i64 0] 25)).alloc (Obj.cells #[Value.slice ao xs.length cap, Value.int IntKind.i64 0] 201) = W
  have hWg : w.grownBy W none := by rw [← hW]; exact grown_trans (grown_trans (grown_trans (World.grownBy_alloc _ _ _) (World.grownBy_alloc _ _ _)) (World.grownBy_alloc _ _ _)) (World.grownBy_alloc _ _ _)
  have h0 : W.heap[w.heap.size]? = some (.cells #[.int .i64 0] 2 (0, 0)) := by rw [← hW, heap_past (by simp <;> omega), heap_past (by simp <;> omega), heap_past (by simp <;> omega), heap_at rfl]
  have h1 : W.heap[w.heap.size + 1]? = some (.cells #[.slice none 0 0] 22 (0, 0)) := by rw [← hW, heap_past (by simp <;> omega), heap_past (by simp <;> omega), heap_at (by simp <;> omega)]
  have h2 : W.heap[w.heap.size + 1 + 1]? = some (.cells #[.int .i64 0] 25 (0, 0)) := by rw [← hW, heap_past (by simp <;> omega), heap_at (by simp <;> omega)]
  have h3 : W.heap[w.heap.size + 1 + 1 + 1]? = some (.cells #[.slice ao xs.length cap, .int .i64 0] 201 (0, 0)) := by rw [← hW, heap_at (by simp <;> omega)]
  have hsz : W.heap.size = w.heap.size + 4 := by rw [← hW]; simp
  clear hW
  have hst : RSt 201 w.heap.size W (w.heap.size + 1 + 1 + 1) (.ok xs) := ⟨_, xs, ⟨rfl, h3⟩, hv.kept hWg (by cases h : (Value.slice ao xs.length cap).ownBlock <;> simp), ⟨hvb, by omega⟩, hb, hl⟩
  refine (int_walk _ _ _ hst).mono ?_
  rintro e w1 ⟨v1, x, s', rfl, ⟨rfl, hx1, hx2⟩, hg1, hst1, hrel⟩
  have k0 := row_of hg1 h0 (by simp <;> omega)
  have k1 := row_of hg1 h1 (by simp <;> omega)
  have k2 := row_of hg1 h2 (by simp <;> omega)
  obtain ⟨c0, f0⟩ := row1 k0
  have hsz1 := hg1.size
  clear h0 h1 h2 h3 hst
  have K0 := hid k0
  have K1 := hid k1
  have K2 := hid k2
  have HS := hid hst1
  cases s' with
  | error er =>
    obtain ⟨v3, l3, ⟨he, he2, hrow⟩, _⟩ := hst1
    obtain ⟨r0, r1, _, _⟩ := row2 hrow
    have hne : ((er : Int) != 0) = true := by simp; omega
    have HRow := hid hrow
    clear hrow k0 k1 k2
    go_wp2
    generalize hwz : w1.setCell ⟨w.heap.size, 0, none⟩ (.int .i64 x) = wz
    have hgz : w1.grownBy wz (some w.heap.size) := by rw [← hwz]; exact grown_setCell w1 ⟨w.heap.size, 0, none⟩ _
    have z0 : wz.heap[w.heap.size]? = some (.cells #[.int .i64 x] 2 (0, 0)) := by rw [← hwz]; exact heap_setCell_same w1 _ 0 _ _ _ K0.out
    have z1 := row_of hgz K1.out (by simp)
    have z2 := row_of hgz K2.out (by simp <;> omega)
    have z3 := row_of hgz HRow.out (by simp <;> omega)
    clear hwz
    refine read6 mixed false 2 _ _ _ _ 6 w.heap.size (w.heap.size + 1 + 1 + 1) 0 (.int .i64 0) er [.int .i64 0] _ _ _ rfl rfl rfl rfl rfl rfl (fun h => (by cases h)) (ty64 0) tyS tyE ⟨_, by simp, z0⟩ ⟨_, z1⟩ ⟨_, z2⟩ (row2 z3).2.1 (by omega) (fun w => field1 w _) ?_
    intro a w2 hres hd hs hl q0 q1 q2
    go_wp2
    obtain ⟨tmps, ds⟩ := a
    simp only at hd hs hl
    subst hd
    refine leaves_cons (f := 164) (args := #[.pointer (some ⟨w.heap.size, 0, none⟩), .pointer (some ⟨w.heap.size + 1, 0, none⟩), .pointer (some ⟨w.heap.size + 1 + 1, 0, none⟩)]) (by simp) (by simp [go_sem]) ?_
    refine (rec64_walk _ _ _ _).mono ?_
    rintro e u' w'' ⟨rfl, rfl, rfl⟩
    have hrs := Res3.grown hWg hg1 hgz hres (by omega) rfl rfl
    exact ⟨_, results3 rfl (hl 4 (by decide)) (hl 5 (by decide)) (hl 6 (by decide)) (ty64 0) (tyS none 0 0) (tyE er) q0 q1 q2, ReadPost.mkErr hrs hrel.err rfl he⟩
  | ok l' =>
    obtain ⟨v3, l3, ⟨rfl, hrow⟩, hsl, hvl, hlb, hll⟩ := hst1
    obtain ⟨r0, r1, _, _⟩ := row2 hrow
    have HRow := hid hrow
    clear hrow k0 k1 k2
    go_wp2
    generalize hwz : w1.setCell ⟨w.heap.size, 0, none⟩ (.int .i64 x) = wz
    have hgz : w1.grownBy wz (some w.heap.size) := by rw [← hwz]; exact grown_setCell w1 ⟨w.heap.size, 0, none⟩ _
    have z0 : wz.heap[w.heap.size]? = some (.cells #[.int .i64 x] 2 (0, 0)) := by rw [← hwz]; exact heap_setCell_same w1 _ 0 _ _ _ K0.out
    have z1 := row_of hgz K1.out (by simp)
    have z2 := row_of hgz K2.out (by simp <;> omega)
    have z3 := row_of hgz HRow.out (by simp <;> omega)
    clear hwz
    have hlo := hvl.1
    refine read7 mixed 2 _ _ _ _ 165 7 w.heap.size (w.heap.size + 1 + 1 + 1) (.int .i64 x) v3 [.int .i64 x] l' _ _ _ rfl rfl rfl rfl rfl (ty64 x) tyS tyE z0 ⟨_, z1⟩ ⟨_, z2⟩ (row2 z3).1 (by omega) (hsl.kept hgz (.inr (hlo.ne (Nat.le_refl _)))) hlo (fun w => field0 w _) enterClone (fun w v hv => clone_walk v l' w hv hll) ?_
    intro a w2 hres hd hs hl q0 q1 q2
    go_wp2
    obtain ⟨tmps, ds⟩ := a
    simp only at hd hs hl
    subst hd
    refine leaves_cons (f := 164) (args := #[.pointer (some ⟨w.heap.size, 0, none⟩), .pointer (some ⟨w.heap.size + 1, 0, none⟩), .pointer (some ⟨w.heap.size + 1 + 1, 0, none⟩)]) (by simp) (by simp [go_sem]) ?_
    refine (rec64_walk _ _ _ _).mono ?_
    rintro e u' w'' ⟨rfl, rfl, rfl⟩
    have hrs := Res3.grown hWg hg1 hgz hres (by omega) rfl rfl
    obtain ⟨v', q1, qs, qk⟩ := q1
    obtain ⟨ao', cap', rfl, _, _⟩ := qs.shape
    exact ⟨_, results3 rfl (hl 4 (by decide)) (hl 5 (by decide)) (hl 6 (by decide)) (ty64 x) (tyS _ _ _) (tyE 0) q0 q1 q2, ReadPost.mkOk hrs hrel.ok rfl ⟨rfl, hx1, hx2⟩ qs fun k hk => by have := qk k hk; have := hgz.size; omega⟩

set_option maxRecDepth 100000 in
theorem readInt_walk (v : Value) (xs : List Nat) (w : World) (hv : Sl w 1 v xs.length (bv xs)) (hl : xs.length ≤ 1099511627776) (hb : ∀ b ∈ xs, b < 256) (hvb : Lo v w.heap.size) :
    Calls Try.prog 20 #[v] w (ReadPost pInt xs (.int .i64 0) (fun _ => repInt) w) := by
  obtain ⟨ao, cap, rfl, hnc, hcm⟩ := hv.shape
  have HV := hid hv
  have HB := hid hb
  have HVB := hid hvb
  clear hv hb hvb
  go_enter Try.func20, Try.ntmps20
  go_wp2_with fail
  refine (read64_walk _ xs _ HV.out hl HB.out HVB.out).mono ?_
  intro e w' h
  have H := hid h
  unfold ReadPost at h
  obtain ⟨hg, h⟩ := h
  cases hp : pInt xs with
  | error n =>
    rw [hp] at h
    obtain ⟨rfl, hn⟩ := h
    clear hp hg hn
    go_wp2
    go_ret3
    exact H.out
  | ok y =>
    obtain ⟨x, r⟩ := y
    rw [hp] at h
    obtain ⟨v, rv, rfl, h⟩ := h
    clear hp hg h
    go_wp2
    go_ret3
    exact H.out
end Go.Proofs.Ytkeiffccllfkpaa
