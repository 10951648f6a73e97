/- Reading a ledger entry. -/
import Derived.Test.YtkeiffccllfkpaaN19
namespace Go.Proofs.Ytkeiffccllfkpaa
open Go.RowKit
set_option linter.unusedSimpArgs false
def leZ : List Value := lecells (LE.base 0 0 0 0) nilS nilS
@[simp] theorem leZ_len : leZ.length = 65 := le_len0 0 0 0 0 nilS nilS
theorem leZ_arr : leZ.toArray = Try.zeroCells111 := by kernel_rfl
@[simp] theorem leZ_size : Try.zeroCells111.size = 65 := by rw [← leZ_arr]; simp

theorem ztyLE : TY Try.prog 111 leZ (.agg Try.zeroCells111) := by rw [← leZ_arr]; exact tyLE (e := LE.base 0 0 0 0) rfl rfl z32_ok.1
set_option maxRecDepth 100000 in
theorem recLE_walk (a b c : Value) (w : World) : CallsD Try.prog 187 #[a, b, c] .returning w fun e u' w' => e = .returned (.tuple #[]) ∧ u' = .returning ∧ w' = w := by
  refine callsD_of_wpS Try.func187 rfl fun c₀ cs hu => ?_
  apply wpS_seq
  apply wpS_region
  simp [wpOpsS, go_sem, recoverD, hu, Try.ntmps187]
  refine wpS_cond (t := false) rfl ?_
  refine wpS_of_wp (wp_skip ?_)
  cases c₀
  simp_all [bodyPostS, results, Try.results187]
set_option maxRecDepth 100000 in
set_option maxHeartbeats 4000000 in
theorem readLE_walk {α : Type} (p : Parser α) (rep : Nat → World → Value → α → Prop) (v : Value) (xs : List Nat) (w : World) (hv : Sl w 1 v xs.length (bv xs)) (hl : xs.length ≤ 1099511627776) (hb : ∀ b ∈ xs, b < 256) (hvb : Lo v w.heap.size)
    (hF : ∀ (w : World) (R L : Nat) (s : St), RSt 201 L w R s → Calls Try.prog 138 #[.pointer (some ⟨R, 0, none⟩)] w (RdPost 201 L w R p s (rep w.heap.size)))
    (hTY : ∀ (L : Nat) (w : World) (v : Value) (x : α), rep L w v x → ∃ cs, TY Try.prog 111 cs v ∧ cs.length = 65)
    (hmono : ∀ (L : Nat) (w w' : World) (v : Value) (x : α), rep L w v x → w.heap.size ≤ w'.heap.size → (∀ k, L ≤ k → k < w.heap.size → w'.heap[k]? = w.heap[k]?) → ∀ L', L' ≤ L → rep L' w' v x) :
    Calls Try.prog 137 #[v, .func (.func 138) #[] #[]] w (ReadPost p xs (.agg Try.zeroCells111) rep w) := by
  obtain ⟨ao, cap, rfl, hnc, hcm⟩ := hv.shape
  have HF := hid hF
  have HTY := hid hTY
  have HMO := hid hmono
  clear hF hTY hmono
  have hmf : ∀ (fn : Fn) (first cap : Array Value) (w : World), (Instr.makeFunc fn first cap).run Try.prog w = .ok (.func fn first cap) w := fun _ _ _ _ => rfl
  go_enter_defers Try.func137, Try.ntmps137
  go_wp2_with fail
  generalize hW : (((w.alloc (Obj.cells Try.zeroCells111 111)).alloc (Obj.cells #[Value.slice none 0 0] 22)).alloc (Obj.cells #[Value.int IntKind.i64 0] 25)).alloc (Obj.cells #[Value.slice ao xs.length cap, Value.int IntKind.i64 0] 201) = W
  have hWg : w.grownBy W none := by rw [← hW]; exact grown_trans (grown_trans (grown_trans (World.grownBy_alloc _ _ _) (World.grownBy_alloc _ _ _)) (World.grownBy_alloc _ _ _)) (World.grownBy_alloc _ _ _)
  have h0 : W.heap[w.heap.size]? = some (.cells Try.zeroCells111 111 (0, 0)) := by rw [← hW, heap_past (by simp <;> omega), heap_past (by simp <;> omega), heap_past (by simp <;> omega), heap_at rfl]
  have h1 : W.heap[w.heap.size + 1]? = some (.cells #[.slice none 0 0] 22 (0, 0)) := by rw [← hW, heap_past (by simp <;> omega), heap_past (by simp <;> omega), heap_at (by simp <;> omega)]
  have h2 : W.heap[w.heap.size + 1 + 1]? = some (.cells #[.int .i64 0] 25 (0, 0)) := by rw [← hW, heap_past (by simp <;> omega), heap_at (by simp <;> omega)]
  have h3 : W.heap[w.heap.size + 1 + 1 + 1]? = some (.cells #[.slice ao xs.length cap, .int .i64 0] 201 (0, 0)) := by rw [← hW, heap_at (by simp <;> omega)]
  have hsz : W.heap.size = w.heap.size + 4 := by rw [← hW]; simp
  clear hW
  have hst : RSt 201 w.heap.size W (w.heap.size + 1 + 1 + 1) (.ok xs) := ⟨_, xs, ⟨rfl, h3⟩, hv.kept hWg (by cases h : (Value.slice ao xs.length cap).ownBlock <;> simp), ⟨hvb, by omega⟩, hb, hl⟩
  refine (HF.out _ _ _ _ hst).mono ?_
  rintro e w1 ⟨v1, x, s', rfl, hrep, hg1, hst1, hrel⟩
  obtain ⟨cs, hT, hcs⟩ := HTY.out _ _ _ _ hrep
  have k0 := row_of hg1 h0 (by simp <;> omega)
  have k1 := row_of hg1 h1 (by simp <;> omega)
  have k2 := row_of hg1 h2 (by simp <;> omega)
  have hsz1 := hg1.size
  clear h0 h1 h2 h3 hst
  have K0 := hid k0
  have K1 := hid k1
  have K2 := hid k2
  have HS := hid hst1
  obtain ⟨e1, hgz, hz0⟩ := hT.stores k0 (by rw [hcs]; rfl)
  have hlenz : (w1.setCells w.heap.size 0 cs).heap.size = w1.heap.size := setCells_size _ _ _ _
  have hz1 := row_of hgz K1.out (by simp)
  have hz2 := row_of hgz K2.out (by simp <;> omega)
  have hz3 : ∀ (k : Nat) (o : Obj), w1.heap[k]? = some o → k ≠ w.heap.size → (w1.setCells w.heap.size 0 cs).heap[k]? = some o := fun k o h hk => row_of hgz h (by simp <;> omega)
  generalize w1.setCells w.heap.size 0 cs = wz at *
  have E1 := hid e1
  have HT := hid hT
  have HR := hid hrep
  clear k0 k1 k2 hT hrep e1
  cases s' with
  | error er =>
    obtain ⟨v3, l3, ⟨he, he2, hrow⟩, _⟩ := hst1
    have z3 := hz3 _ _ hrow (by omega)
    obtain ⟨r0, r1, _, _⟩ := row2 z3
    have hne : ((er : Int) != 0) = true := by simp; omega
    have Z0 := hid hz0
    have Z1 := hid hz1
    have Z2 := hid hz2
    have Z3 := hid z3
    clear hrow hz0 hz1 hz2 hz3 z3
    go_wp2_with (refine wpList_store_ty rfl (.tmp 4) (.tmp 15) rfl rfl rfl E1.out ?_)
    refine read6 mixed true 111 _ _ _ _ 6 w.heap.size (w.heap.size + 1 + 1 + 1) w1.heap.size (.agg Try.zeroCells111) er leZ _ _ (wz.alloc (Obj.cells Try.zeroCells111 111)) rfl rfl rfl rfl rfl rfl (fun _ => ⟨by omega, heap_at hlenz.symm⟩) ztyLE tyS tyE ⟨_, by simp [hcs], (heap_past (by have := hgz.size; omega)).trans Z0.out⟩ ⟨_, (heap_past (by have := hgz.size; omega)).trans Z1.out⟩ ⟨_, (heap_past (by have := hgz.size; omega)).trans Z2.out⟩ (row2 ((heap_past (by have := hgz.size; have := (Array.getElem?_eq_some_iff.1 Z3.out).1; omega)).trans Z3.out)).2.1 (by omega) (fun w => field1 w _) ?_
    intro a w2 hres hd hs hl q0 q1 q2
    go_wp2
    obtain ⟨tmps, ds⟩ := a
    simp only at hd hs hl
    subst hd
    refine leaves_cons (f := 187) (args := #[.pointer (some ⟨w.heap.size, 0, none⟩), .pointer (some ⟨w.heap.size + 1, 0, none⟩), .pointer (some ⟨w.heap.size + 1 + 1, 0, none⟩)]) (by simp) (by simp [go_sem]) ?_
    refine (recLE_walk _ _ _ _).mono ?_
    rintro e u' w'' ⟨rfl, rfl, rfl⟩
    have hrs := Res3.grown hWg hg1 (grown_trans hgz (World.grownBy_alloc wz (Obj.cells Try.zeroCells111 111) _)) hres (by omega) rfl rfl
    exact ⟨_, results3 rfl (hl 4 (by decide)) (hl 5 (by decide)) (hl 6 (by decide)) ztyLE (tyS none 0 0) (tyE er) q0 q1 q2, ReadPost.mkErr hrs hrel.err rfl he⟩
  | ok l' =>
    obtain ⟨v3, l3, ⟨rfl, hrow⟩, hsl, hvl, hlb, hll⟩ := hst1
    have z3 := hz3 _ _ hrow (by omega)
    obtain ⟨r0, r1, _, _⟩ := row2 z3
    have Z0 := hid hz0
    have Z1 := hid hz1
    have Z2 := hid hz2
    have Z3 := hid z3
    clear hrow hz0 hz1 hz2 hz3 z3
    go_wp2_with (refine wpList_store_ty rfl (.tmp 4) (.tmp 15) rfl rfl rfl E1.out ?_)
    refine read7 mixed 111 _ _ _ _ 165 7 w.heap.size (w.heap.size + 1 + 1 + 1) v1 v3 cs l' _ _ _ rfl rfl rfl rfl rfl HT.out tyS tyE Z0.out ⟨_, Z1.out⟩ ⟨_, Z2.out⟩ (row2 Z3.out).1 (by omega) (hsl.kept hgz (.inr (hvl.1.ne (Nat.le_refl _)))) hvl.1 (fun w => field0 w _) enterClone (fun w v hv => clone_walk v l' w hv hll) ?_
    intro a w2 hres hd hs hl q0 q1 q2
    go_wp2
    obtain ⟨tmps, ds⟩ := a
    simp only at hd hs hl
    subst hd
    refine leaves_cons (f := 187) (args := #[.pointer (some ⟨w.heap.size, 0, none⟩), .pointer (some ⟨w.heap.size + 1, 0, none⟩), .pointer (some ⟨w.heap.size + 1 + 1, 0, none⟩)]) (by simp) (by simp [go_sem]) ?_
    refine (recLE_walk _ _ _ _).mono ?_
    rintro e u' w'' ⟨rfl, rfl, rfl⟩
    have hrs := Res3.grown hWg hg1 hgz hres (by omega) rfl rfl
    obtain ⟨v', q1, qs, qk⟩ := q1
    obtain ⟨ao', cap', rfl, _, _⟩ := qs.shape
    have hrep' : rep w.heap.size w'' v1 x := HMO.out _ _ _ _ _ HR.out (by have := hgz.size; have := hres.size; omega) (fun k hk1 hk2 => (hres.block k (by have := hgz.size; omega) (by omega) (by omega) (by omega)).trans (hgz.block k hk2 (by simp <;> omega))) _ (by omega)
    exact ⟨_, results3 rfl (hl 4 (by decide)) (hl 5 (by decide)) (hl 6 (by decide)) HT.out (tyS _ _ _) (tyE 0) q0 q1 q2, ReadPost.mkOk hrs hrel.ok rfl hrep' qs fun k hk => by have := qk k hk; have := hgz.size; omega⟩
set_option maxRecDepth 100000 in
set_option maxHeartbeats 4000000 in
theorem rdxEntry_walk (v : Value) (xs : List Nat) (w : World) (hv : Sl w 1 v xs.length (bv xs)) (hl : xs.length ≤ 1099511627776) (hb : ∀ b ∈ xs, b < 256) (hvb : Lo v w.heap.size) :
    Calls Try.prog 61 #[v] w (ReadPost pLE xs (.agg Try.zeroCells111) repLE w) := by
  obtain ⟨ao, cap, rfl, hnc, hcm⟩ := hv.shape
  have hTY : ∀ (L : Nat) (w : World) (v : Value) (x : _), repLE L w v x → ∃ cs, TY Try.prog 111 cs v ∧ cs.length = 65 := by
    rintro L w v x ⟨vs, ss, rfl, h1, h2, h3, _⟩
    exact ⟨_, tyLE (slice_one h1.1) (slice_one h2.1) h3, lecells_len _ _ _ h3⟩
  have hga := World.grownBy_alloc w (.cells Try.zeroCells111 111) none
  have HV := hid (hv.kept hga (by cases (Value.slice ao xs.length cap).ownBlock <;> simp))
  have HB := hid hb
  have HVB := hid (hvb.mono (R' := (w.alloc (.cells Try.zeroCells111 111)).heap.size) (by simp))
  clear hv hb hvb hga
  go_enter Try.func61, Try.ntmps61
  go_wp2_with fail
  refine (readLE_walk pLE (repLE) _ xs _ HV.out hl HB.out HVB.out (fun w R L s hst => ledgerEntry_walk R s w hst) hTY repLE_mono).mono ?_
  intro e w' h
  have hz := row_of h.1 (heap_at (w := w) (o := .cells Try.zeroCells111 111) rfl) (by simp)
  have HZ := hid hz
  have H := hid h
  unfold ReadPost at h
  obtain ⟨hg, h⟩ := h
  clear hz
  cases hp : pLE xs with
  | error n =>
    rw [hp] at h
    obtain ⟨rfl, hn⟩ := h
    have HP := hid hp
    have HG := hid hg
    clear hp hg
    generalize hV : (Value.agg Try.zeroCells111) = V
    obtain ⟨cs, ht, hcl⟩ : ∃ cs, TY Try.prog 111 cs V ∧ cs.length = 65 := ⟨leZ, by rw [← hV]; exact ztyLE, rfl⟩
    have HT := hid ht
    have hcl' : Try.zeroCells111.size = cs.length := by rw [hcl]; rfl
    have HVV := hid hV
    clear ht hV hTY
    go_wp2_with (first | (refine wpList_storeTY rfl 111 (.tmp 2) (.tmp 7) rfl rfl rfl HT.out HZ.out hcl' ?_) | fail)
    have hVV := HVV.out
    clear HVV
    subst hVV
    exact bodyPost_ret (results_ctt rfl rfl HT.out (HT.out.stores HZ.out hcl').2.2) rfl (ReadPost.errS HP.out HG.out hn)
  | ok y =>
    obtain ⟨x, r⟩ := y
    rw [hp] at h
    obtain ⟨V, rv, rfl, h1, h2, h3⟩ := h
    obtain ⟨cs, ht, hcl⟩ := hTY (w.alloc (.cells Try.zeroCells111 111)).heap.size _ _ _ h1
    have HT := hid ht
    clear hTY
    have HC := hid (And.intro h1 (And.intro h2 h3))
    have HP := hid hp
    have HG := hid hg
    clear hp hg h1 h2 h3 ht
    have hcl' : Try.zeroCells111.size = cs.length := by rw [hcl]; rfl
    go_wp2_with (first | (refine wpList_storeTY rfl 111 (.tmp 2) (.tmp 7) rfl rfl rfl HT.out HZ.out hcl' ?_) | fail)
    exact bodyPost_ret (results_ctt rfl rfl HT.out (HT.out.stores HZ.out hcl').2.2) rfl (ReadPost.okS HP.out HG.out HC.out.1 HC.out.2.1 HC.out.2.2 repLE_mono)
end Go.Proofs.Ytkeiffccllfkpaa
