import Derived.Test.YtkeiffccllfkpaaRdN19
import Derived.Test.YtkeiffccllfkpaaRdN9
set_option linter.unusedSimpArgs false
set_option linter.unusedVariables false
set_option maxRecDepth 100000
set_option maxHeartbeats 4000000
/- Reading a ledger entry. -/
namespace Go.Proofs.Ytkeiffccllfkpaa
open Go.RowKit
set_option linter.unusedSimpArgs false
def leZ : List Value := lecells (LE.base 0 0 0 0) nilS nilS
@[simp] theorem leZ_len : leZ.length = 65 := le_len0 0 0 0 0 nilS nilS
theorem leZ_arr : leZ.toArray = Try.zeroCells111 := by kernel_rfl
@[simp] theorem leZ_size : Try.zeroCells111.size = 65 := by rw [← leZ_arr]; simp
theorem ztyLE : TY Try.prog 111 leZ (.agg Try.zeroCells111) := by rw [← leZ_arr]; exact tyLE (e := LE.base 0 0 0 0) rfl rfl z32_ok.1
theorem recLE_walk (a b c : Value) (w : World) : CallsD Try.prog 187 #[a, b, c] .returning w fun e u' w' => e = .returned (.tuple #[]) ∧ u' = .returning ∧ w' = w := by
 refine callsD_of_wpS Try.func187 rfl fun c₀ cs hu => ?_
 apply wpS_seq
 apply wpS_region
 simp [wpOpsS, go_sem, recoverD, hu, Try.ntmps187]
 refine wpS_cond (t := false) rfl ?_
 refine wpS_of_wp (wp_skip ?_)
 cases c₀
 simp_all [bodyPostS, results, Try.results187]
theorem readLE_walk {α : Type} (p : Parser α) (rep : Nat → World → Value → α → Prop) (v : Value) (xs : List Nat) (w : World) (hv : Sl w 1 v xs.length (bv xs)) (hl : xs.length ≤ 1099511627776) (hb : ∀ b ∈ xs, b < 256) (hvb : Lo v w.heap.size)
   (hF : ∀ (w : World) (R L : Nat) (s : St), RSt 201 L w R s → Calls Try.prog 138 #[.pointer (some ⟨R, 0, none⟩)] w (RdPost 201 L w R p s (rep w.heap.size)))
   (hTY : ∀ (L : Nat) (w : World) (v : Value) (x : α), rep L w v x → ∃ cs, TY Try.prog 111 cs v ∧ cs.length = 65)
   (hmono : ∀ (L : Nat) (w w' : World) (v : Value) (x : α), rep L w v x → w.heap.size ≤ w'.heap.size → (∀ k, L ≤ k → k < w.heap.size → w'.heap[k]? = w.heap[k]?) → ∀ L', L' ≤ L → rep L' w' v x) :
   Calls Try.prog 137 #[v, .func (.func 138) #[] #[]] w (ReadPost p xs (.agg Try.zeroCells111) rep w) := by
 obtain ⟨ao, cap, rfl, hnc, hcm⟩ := hv.shape
 have HF := hid hF
 have HTY := hid hTY
 have HMO := hid hmono
 clear hF hTY hmono
 have hmf : ∀ (fn : Fn) (first cap : Array Value) (w : World), (Instr.makeFunc fn first cap).run Try.prog w = .ok (.func fn first cap) w := fun _ _ _ _ => rfl
 go_enter_defers Try.func137, Try.ntmps137
 go_wp2_with fail
 generalize hW : (((w.alloc (Obj.cells Try.zeroCells111 111)).alloc (Obj.cells #[Value.slice none 0 0] 22)).alloc (Obj.cells #[Value.int IntKind.i64 0] 25)).alloc (Obj.cells #[Value.slice ao xs.length cap, Value.int IntKind.i64 0] 201) = W
 have hWg : w.grownBy W none := by rw [← hW]; exact grown_trans (grown_trans (grown_trans (World.grownBy_alloc _ _ _) (World.grownBy_alloc _ _ _)) (World.grownBy_alloc _ _ _)) (World.grownBy_alloc _ _ _)
 have h0 : W.heap[w.heap.size]? = some (.cells Try.zeroCells111 111 (0, 0)) := by rw [← hW, heap_past (by simp <;> omega), heap_past (by simp <;> omega), heap_past (by simp <;> omega), heap_at rfl]
 have h1 : W.heap[w.heap.size + 1]? = some (.cells #[.slice none 0 0] 22 (0, 0)) := by rw [← hW, heap_past (by simp <;> omega), heap_past (by simp <;> omega), heap_at (by simp <;> omega)]
 have h2 : W.heap[w.heap.size + 1 + 1]? = some (.cells #[.int .i64 0] 25 (0, 0)) := by rw [← hW, heap_past (by simp <;> omega), heap_at (by simp <;> omega)]
 have h3 : W.heap[w.heap.size + 1 + 1 + 1]? = some (.cells #[.slice ao xs.length cap, .int .i64 0] 201 (0, 0)) := by rw [← hW, heap_at (by simp <;> omega)]
 have hsz : W.heap.size = w.heap.size + 4 := by rw [← hW]; simp
 clear hW
 have hst : RSt 201 w.heap.size W (w.heap.size + 1 + 1 + 1) (.ok xs) := ⟨_, xs, ⟨rfl, h3⟩, hv.kept hWg (by cases h : (Value.slice ao xs.length cap).ownBlock <;> simp), ⟨hvb, by omega⟩, hb, hl⟩
 refine (HF.out _ _ _ _ hst).mono ?_
 rintro e w1 ⟨v1, x, s', rfl, hrep, hg1, hst1, hrel⟩
 obtain ⟨cs, hT, hcs⟩ := HTY.out _ _ _ _ hrep
 have k0 := row_of hg1 h0 (by simp <;> omega)
 have k1 := row_of hg1 h1 (by simp <;> omega)
 have k2 := row_of hg1 h2 (by simp <;> omega)
 have hsz1 := hg1.size
 clear h0 h1 h2 h3 hst
 have K0 := hid k0
 have K1 := hid k1
 have K2 := hid k2
 have HS := hid hst1
 obtain ⟨e1, hgz, hz0⟩ := hT.stores k0 (by rw [hcs]; rfl)
 have hlenz : (w1.setCells w.heap.size 0 cs).heap.size = w1.heap.size := setCells_size _ _ _ _
 have hz1 := row_of hgz K1.out (by simp)
 have hz2 := row_of hgz K2.out (by simp <;> omega)
 have hz3 : ∀ (k : Nat) (o : Obj), w1.heap[k]? = some o → k ≠ w.heap.size → (w1.setCells w.heap.size 0 cs).heap[k]? = some o := fun k o h hk => row_of hgz h (by simp <;> omega)
 generalize w1.setCells w.heap.size 0 cs = wz at *
 have E1 := hid e1
 have HT := hid hT
 have HR := hid hrep
 clear k0 k1 k2 hT hrep e1
 cases s' with
 | error er =>
   obtain ⟨v3, l3, ⟨he, he2, hrow⟩, _⟩ := hst1
   have z3 := hz3 _ _ hrow (by omega)
   obtain ⟨r0, r1, _, _⟩ := row2 z3
   have hne : ((er : Int) != 0) = true := by simp; omega
   have Z0 := hid hz0
   have Z1 := hid hz1
   have Z2 := hid hz2
   have Z3 := hid z3
   clear hrow hz0 hz1 hz2 hz3 z3
   go_wp2_with (refine wpList_store_ty rfl (.tmp 4) (.tmp 15) rfl rfl rfl E1.out ?_)
   refine read6 mixed true 111 _ _ _ _ 6 w.heap.size (w.heap.size + 1 + 1 + 1) w1.heap.size (.agg Try.zeroCells111) er leZ _ _ (wz.alloc (Obj.cells Try.zeroCells111 111)) rfl rfl rfl rfl rfl rfl (fun _ => ⟨by omega, heap_at hlenz.symm⟩) ztyLE tyS tyE ⟨_, by simp [hcs], (heap_past (by have := hgz.size; omega)).trans Z0.out⟩ ⟨_, (heap_past (by have := hgz.size; omega)).trans Z1.out⟩ ⟨_, (heap_past (by have := hgz.size; omega)).trans Z2.out⟩ (row2 ((heap_past (by have := hgz.size; have := (Array.getElem?_eq_some_iff.1 Z3.out).1; omega)).trans Z3.out)).2.1 (by omega) (fun w => field1 w _) ?_
   intro a w2 hres hd hs hl q0 q1 q2
   go_wp2
   obtain ⟨tmps, ds⟩ := a
   simp only at hd hs hl
   subst hd
   refine leaves_cons (f := 187) (args := #[.pointer (some ⟨w.heap.size, 0, none⟩), .pointer (some ⟨w.heap.size + 1, 0, none⟩), .pointer (some ⟨w.heap.size + 1 + 1, 0, none⟩)]) (by simp) (by simp [go_sem]) ?_
   refine (recLE_walk _ _ _ _).mono ?_
   rintro e u' w'' ⟨rfl, rfl, rfl⟩
   have hrs := Res3.grown hWg hg1 (grown_trans hgz (World.grownBy_alloc wz (Obj.cells Try.zeroCells111 111) _)) hres (by omega) rfl rfl
   exact ⟨_, results3 rfl (hl 4 (by decide)) (hl 5 (by decide)) (hl 6 (by decide)) ztyLE (tyS none 0 0) (tyE er) q0 q1 q2, ReadPost.mkErr hrs hrel.err rfl he⟩
 | ok l' =>
   obtain ⟨v3, l3, ⟨rfl, hrow⟩, hsl, hvl, hlb, hll⟩ := hst1
   have z3 := hz3 _ _ hrow (by omega)
   obtain ⟨r0, r1, _, _⟩ := row2 z3
   have Z0 := hid hz0
   have Z1 := hid hz1
   have Z2 := hid hz2
   have Z3 := hid z3
   clear hrow hz0 hz1 hz2 hz3 z3
   go_wp2_with (refine wpList_store_ty rfl (.tmp 4) (.tmp 15) rfl rfl rfl E1.out ?_)
   refine read7 mixed 111 _ _ _ _ 165 7 w.heap.size (w.heap.size + 1 + 1 + 1) v1 v3 cs l' _ _ _ rfl rfl rfl rfl rfl HT.out tyS tyE Z0.out ⟨_, Z1.out⟩ ⟨_, Z2.out⟩ (row2 Z3.out).1 (by omega) (hsl.kept hgz (.inr (hvl.1.ne (Nat.le_refl _)))) hvl.1 (fun w => field0 w _) enterClone (fun w v hv => clone_walk v l' w hv hll) ?_
   intro a w2 hres hd hs hl q0 q1 q2
   go_wp2
   obtain ⟨tmps, ds⟩ := a
   simp only at hd hs hl
   subst hd
   refine leaves_cons (f := 187) (args := #[.pointer (some ⟨w.heap.size, 0, none⟩), .pointer (some ⟨w.heap.size + 1, 0, none⟩), .pointer (some ⟨w.heap.size + 1 + 1, 0, none⟩)]) (by simp) (by simp [go_sem]) ?_
   refine (recLE_walk _ _ _ _).mono ?_
   rintro e u' w'' ⟨rfl, rfl, rfl⟩
   have hrs := Res3.grown hWg hg1 hgz hres (by omega) rfl rfl
   obtain ⟨v', q1, qs, qk⟩ := q1
   obtain ⟨ao', cap', rfl, _, _⟩ := qs.shape
   have hrep' : rep w.heap.size w'' v1 x := HMO.out _ _ _ _ _ HR.out (by have := hgz.size; have := hres.size; omega) (fun k hk1 hk2 => (hres.block k (by have := hgz.size; omega) (by omega) (by omega) (by omega)).trans (hgz.block k hk2 (by simp <;> omega))) _ (by omega)
   exact ⟨_, results3 rfl (hl 4 (by decide)) (hl 5 (by decide)) (hl 6 (by decide)) HT.out (tyS _ _ _) (tyE 0) q0 q1 q2, ReadPost.mkOk hrs hrel.ok rfl hrep' qs fun k hk => by have := qk k hk; have := hgz.size; omega⟩
theorem rdxEntry_walk (v : Value) (xs : List Nat) (w : World) (hv : Sl w 1 v xs.length (bv xs)) (hl : xs.length ≤ 1099511627776) (hb : ∀ b ∈ xs, b < 256) (hvb : Lo v w.heap.size) :
   Calls Try.prog 61 #[v] w (ReadPost pLE xs (.agg Try.zeroCells111) repLE w) := by
 obtain ⟨ao, cap, rfl, hnc, hcm⟩ := hv.shape
 have hTY : ∀ (L : Nat) (w : World) (v : Value) (x : _), repLE L w v x → ∃ cs, TY Try.prog 111 cs v ∧ cs.length = 65 := by
   rintro L w v x ⟨vs, ss, rfl, h1, h2, h3, _⟩
   exact ⟨_, tyLE (slice_one h1.1) (slice_one h2.1) h3, lecells_len _ _ _ h3⟩
 have hga := World.grownBy_alloc w (.cells Try.zeroCells111 111) none
 have HV := hid (hv.kept hga (by cases (Value.slice ao xs.length cap).ownBlock <;> simp))
 have HB := hid hb
 have HVB := hid (hvb.mono (R' := (w.alloc (.cells Try.zeroCells111 111)).heap.size) (by simp))
 clear hv hb hvb hga
 go_enter Try.func61, Try.ntmps61
 go_wp2_with fail
 refine (readLE_walk pLE (repLE) _ xs _ HV.out hl HB.out HVB.out (fun w R L s hst => ledgerEntry_walk R s w hst) hTY repLE_mono).mono ?_
 intro e w' h
 have hz := row_of h.1 (heap_at (w := w) (o := .cells Try.zeroCells111 111) rfl) (by simp)
 have HZ := hid hz
 have H := hid h
 unfold ReadPost at h
 obtain ⟨hg, h⟩ := h
 clear hz
 cases hp : pLE xs with
 | error n =>
   rw [hp] at h
   obtain ⟨rfl, hn⟩ := h
   have HP := hid hp
   have HG := hid hg
   clear hp hg
   generalize hV : (Value.agg Try.zeroCells111) = V
   obtain ⟨cs, ht, hcl⟩ : ∃ cs, TY Try.prog 111 cs V ∧ cs.length = 65 := ⟨leZ, by rw [← hV]; exact ztyLE, rfl⟩
   have HT := hid ht
   have hcl' : Try.zeroCells111.size = cs.length := by rw [hcl]; rfl
   have HVV := hid hV
   clear ht hV hTY
   go_wp2_with (first | (refine wpList_storeTY rfl 111 (.tmp 2) (.tmp 7) rfl rfl rfl HT.out HZ.out hcl' ?_) | fail)
   have hVV := HVV.out
   clear HVV
   subst hVV
   exact bodyPost_ret (results_ctt rfl rfl HT.out (HT.out.stores HZ.out hcl').2.2) rfl (ReadPost.errS HP.out HG.out hn)
 | ok y =>
   obtain ⟨x, r⟩ := y
   rw [hp] at h
   obtain ⟨V, rv, rfl, h1, h2, h3⟩ := h
   obtain ⟨cs, ht, hcl⟩ := hTY (w.alloc (.cells Try.zeroCells111 111)).heap.size _ _ _ h1
   have HT := hid ht
   clear hTY
   have HC := hid (And.intro h1 (And.intro h2 h3))
   have HP := hid hp
   have HG := hid hg
   clear hp hg h1 h2 h3 ht
   have hcl' : Try.zeroCells111.size = cs.length := by rw [hcl]; rfl
   go_wp2_with (first | (refine wpList_storeTY rfl 111 (.tmp 2) (.tmp 7) rfl rfl rfl HT.out HZ.out hcl' ?_) | fail)
   exact bodyPost_ret (results_ctt rfl rfl HT.out (HT.out.stores HZ.out hcl').2.2) rfl (ReadPost.okS HP.out HG.out HC.out.1 HC.out.2.1 HC.out.2.2 repLE_mono)
end Go.Proofs.Ytkeiffccllfkpaa
/- A ledger entry, read by the reference. (printed by gen_refe.py) -/
namespace Go.Proofs.Ytkeiffccllfkpaa
open Go.RowKit
set_option linter.unusedSimpArgs false
set_option linter.unusedVariables false
theorem leB1_arr (x : Int) : (Try.zeroCells111.setIfInBounds 0 (.int .i64 x)) = (lecells (LE.base x 0 0 0) nilS nilS).toArray := by
 rw [← leZ_arr]
 rfl
theorem leB1_ty (x : Int) : TY Try.prog 111 (lecells (LE.base x 0 0 0) nilS nilS) (.agg (Try.zeroCells111.setIfInBounds 0 (.int .i64 x))) := by
 rw [leB1_arr]
 exact tyLE rfl rfl z32_ok.1
theorem le_start {L : Nat} {w w1 : World} {R : Nat} {s1 : St} (hR : R < w.heap.size) (hg : (w.alloc (.cells Try.zeroCells111 111)).grownBy w1 (some R)) (hst : RSt 33 L w1 R s1) : FR 33 L w (w1.alloc (.cells Try.zeroCells111 111)) R w1.heap.size s1 111 leZ leZ := by
 rw [← leZ_arr] at hg ⊢
 exact FR.start1 111 leZ leZ hR hg hst
theorem rEntry_read {L : Nat} (R : Nat) (s : St) (w : World) (h : RSt 33 L w R s) :
   Calls Try.prog 83 #[.pointer (some ⟨R, 0, none⟩)] w (RdPost 33 L w R pLE s (repLE w.heap.size)) := by
 have hR := h.lt
 have HS0 := hid (h.kept (World.grownBy_alloc w (.cells Try.zeroCells111 111) none))
 clear h
 go_enter Try.func83, Try.ntmps83
 go_wp2_with fail
 refine (rint_walk R s _ HS0.out).mono ?_
 rintro e w1 ⟨v1, x1, s1, rfl, ⟨rfl, hn⟩, hg, hst, hrel⟩
 obtain ⟨r1, r2, r3⟩ := hrel.inIn (a := 1) (b := 7)
 have T0 := hid (leB1_ty x1)
 clear hn
 by_cases hb : x1 < 1 ∨ 7 < x1
 · have H1 := hid (show ¬ x1 = 1 by omega)
   have H2 := hid (show ¬ x1 = 2 by omega)
   have H4 := hid (show ¬ x1 = 4 by omega)
   have H6 := hid (show ¬ x1 = 6 by omega)
   have H7 := hid (show ¬ x1 = 7 by omega)
   obtain ⟨v3, er, hrow, hcase⟩ : ∃ v3 er, w1.heap[R]? = some (.cells #[v3, .int .i64 er] 33 (0, 0)) ∧ ((er = 0 ∧ ∃ l, s1 = .ok l) ∨ (er ≠ 0 ∧ ∃ x, s1 = .error x)) := by
     have hst' := hst
     obtain ⟨v3, l3, hc, _⟩ := hst'
     cases s1 with
     | error er => exact ⟨v3, er, hc.2.2, .inr ⟨by have := hc.1; omega, _, rfl⟩⟩
     | ok l => exact ⟨v3, 0, hc.2, .inl ⟨rfl, _, rfl⟩⟩
   have FIN := hid (show ∀ w', w' = (if er = 0 then w1.setCell ⟨R, 1, none⟩ (.int .i64 1) else w1) → ∃ e', (w.alloc (.cells Try.zeroCells111 111)).grownBy w' (some R) ∧ RSt 33 L w' R (.error e') ∧ Rel (pIntIn 1 7) s x1 (.error e') from by
     intro w' hw'
     rcases hcase with ⟨h0, l, hl⟩ | ⟨h0, x, hx⟩
     · subst hl
       rw [hw', if_pos h0]
       exact ⟨1, grown_trans hg (grown_setCell w1 ⟨R, 1, none⟩ _), hst.fail' 1 (by decide) (by decide), r2 l rfl hb x1⟩
     · subst hx
       rw [hw', if_neg h0]
       exact ⟨x, hg, hst, r3 x rfl x1⟩)
   have d1 : (decide (x1 < 1) = true) ∨ (decide (x1 < 1) = false ∧ decide (7 < x1) = true) := by
     rcases hb with hb | hb
     · exact .inl (decide_eq_true hb)
     · by_cases h0 : x1 < 1
       · exact .inl (decide_eq_true h0)
       · exact .inr ⟨decide_eq_false h0, decide_eq_true hb⟩
   clear hb hcase hg hst hrel r1 r2 r3
   rcases d1 with d1 | ⟨d1, d2⟩
   all_goals
     go_wp2_with (first | (go_at_call 92; refine (rfail_walk _ _ _ _ _ hrow).mono ?_; rintro e w' ⟨rfl, hw'⟩; obtain ⟨e1, hg1, hst1, hrel1⟩ := FIN.out w' hw'; have R1 := hid hrel1; have G1 := hid (le_start hR hg1 hst1); clear hw' hg1 hst1 hrel1) | (refine wpList_storeTYg rfl 111 (.tmp 4) (.tmp 16) rfl rfl rfl T0.out G1.out.b1 (by rw [lecells_len _ _ _ z32_ok.1]; rfl) ?_; intro W1 g1 hb1; have F1 := hid (G1.out.write g1 hb1 (C'' := lecells (LE.base x1 0 0 0) nilS nilS) rfl); clear g1 hb1) | fail)
     refine (rint_walk R (.error e1) _ F1.out.st).mono ?_
     rintro e w2 ⟨v2, x2, s2, rfl, ⟨rfl, hn⟩, hg, hst, hrel⟩
     have R2 := hid hrel
     have G2 := hid (F1.out.call hg hst)
     clear hn hg hst hrel
     go_wp2_with (first | (refine wpList_storeAt rfl 3 (.tmp 19) (.tmp 18) rfl rfl rfl (ty3 x2) G2.out.b1 (by rw [le_len0]; exact Nat.le_of_ble_eq_true rfl) ?_; intro W2 g2 hb2) | fail)
     have F2 := hid (G2.out.write g2 hb2 (C'' := lecells (LE.base x1 x2 0 0) nilS nilS) rfl)
     clear g2 hb2
     refine (rint_walk R s2 _ F2.out.st).mono ?_
     rintro e w3 ⟨v3, x3, s3, rfl, ⟨rfl, hn⟩, hg, hst, hrel⟩
     have R3 := hid hrel
     have G3 := hid (F2.out.call hg hst)
     clear hn hg hst hrel
     go_wp2_with (first | (refine wpList_storeAt rfl 3 (.tmp 22) (.tmp 21) rfl rfl rfl (ty3 x3) G3.out.b1 (by rw [le_len0]; exact Nat.le_of_ble_eq_true rfl) ?_; intro W3 g3 hb3) | fail)
     have F3 := hid (G3.out.write g3 hb3 (C'' := lecells (LE.base x1 x2 x3 0) nilS nilS) rfl)
     clear g3 hb3
     refine (rint_walk R s3 _ F3.out.st).mono ?_
     rintro e w4 ⟨v4, x4, s4, rfl, ⟨rfl, hn⟩, hg, hst, hrel⟩
     have R4 := hid hrel
     have G4 := hid (F3.out.call hg hst)
     clear hn hg hst hrel
     have b1 : (x1 == 1) = false := by simp; exact H1.out
     have b2 : (x1 == 2) = false := by simp; exact H2.out
     have b4 : (x1 == 4) = false := by simp; exact H4.out
     have b6 : (x1 == 6) = false := by simp; exact H6.out
     have b7 : (x1 == 7) = false := by simp; exact H7.out
     obtain ⟨V, hV⟩ : ∃ V : Value, V = leval (LE.base x1 x2 x3 x4) nilS nilS := ⟨_, rfl⟩
     have HT := hid (show TY Try.prog 111 (lecells (LE.base x1 x2 x3 x4) nilS nilS) V from hV ▸ tyLE rfl rfl z32_ok.1)
     have HV := hid hV
     clear hV
     go_wp2_with (first | (refine wpList_storeAt rfl 3 (.tmp 25) (.tmp 24) rfl rfl rfl (ty3 x4) G4.out.b1 (by rw [le_len0]; exact Nat.le_of_ble_eq_true rfl) ?_; intro W4 g4 hb4; have F4 := hid (G4.out.write g4 hb4 (C'' := lecells (LE.base x1 x2 x3 x4) nilS nilS) rfl); have c0 := F4.out.c 0 (v := .int .i64 x1) rfl; clear g4 hb4) | (refine wpList_loadTY rfl 111 (.tmp 4) rfl rfl HT.out F4.out.b1 ?_) | (refine wpList_storeTYg rfl 111 (.tmp 2) (.tmp 56) rfl rfl rfl HT.out F4.out.b0 (by rw [lecells_len _ _ _ z32_ok.1]; rfl) ?_; intro W9 g9 hb9) | fail)
     exact ret_cell rfl rfl HT.out hb9 rfl ⟨_, LE.base x1 x2 x3 x4, s4, rfl, ⟨nilS, nilS, HV.out, (repVers_nil _ _), (repSrcs_nil _ _), z32_ok⟩, (F4.out.fing g9).1, (F4.out.fing g9).2, R1.out.bind (R2.out.bind (R3.out.bind (R4.out.bind (by unfold pLEt; rw [if_neg H1.out, if_neg H2.out, if_neg H4.out, if_neg H6.out, if_neg H7.out]; exact Rel.pure _ _))))⟩
 have d1 : decide (x1 < 1) = false := decide_eq_false (by omega)
 have d2 : decide (7 < x1) = false := decide_eq_false (by omega)
 have hrel1 : Rel (pIntIn 1 7) s x1 s1 := by
   cases s1 with
   | error er => exact r3 er rfl x1
   | ok l => exact r1 l rfl (by omega)
 have R1 := hid hrel1
 have G1 := hid (le_start hR hg hst)
 clear hb hg hst hrel r1 r2 r3 hrel1
 go_wp2_with (first | (refine wpList_storeTYg rfl 111 (.tmp 4) (.tmp 16) rfl rfl rfl T0.out G1.out.b1 (by rw [lecells_len _ _ _ z32_ok.1]; rfl) ?_; intro W1 g1 hb1; have F1 := hid (G1.out.write g1 hb1 (C'' := lecells (LE.base x1 0 0 0) nilS nilS) rfl); clear g1 hb1) | fail)
 refine (rint_walk R s1 _ F1.out.st).mono ?_
 rintro e w2 ⟨v2, x2, s2, rfl, ⟨rfl, hn⟩, hg, hst, hrel⟩
 have R2 := hid hrel
 have G2 := hid (F1.out.call hg hst)
 clear hn hg hst hrel
 go_wp2_with (first | (refine wpList_storeAt rfl 3 (.tmp 19) (.tmp 18) rfl rfl rfl (ty3 x2) G2.out.b1 (by rw [le_len0]; exact Nat.le_of_ble_eq_true rfl) ?_; intro W2 g2 hb2) | fail)
 have F2 := hid (G2.out.write g2 hb2 (C'' := lecells (LE.base x1 x2 0 0) nilS nilS) rfl)
 clear g2 hb2
 refine (rint_walk R s2 _ F2.out.st).mono ?_
 rintro e w3 ⟨v3, x3, s3, rfl, ⟨rfl, hn⟩, hg, hst, hrel⟩
 have R3 := hid hrel
 have G3 := hid (F2.out.call hg hst)
 clear hn hg hst hrel
 go_wp2_with (first | (refine wpList_storeAt rfl 3 (.tmp 22) (.tmp 21) rfl rfl rfl (ty3 x3) G3.out.b1 (by rw [le_len0]; exact Nat.le_of_ble_eq_true rfl) ?_; intro W3 g3 hb3) | fail)
 have F3 := hid (G3.out.write g3 hb3 (C'' := lecells (LE.base x1 x2 x3 0) nilS nilS) rfl)
 clear g3 hb3
 refine (rint_walk R s3 _ F3.out.st).mono ?_
 rintro e w4 ⟨v4, x4, s4, rfl, ⟨rfl, hn⟩, hg, hst, hrel⟩
 have R4 := hid hrel
 have G4 := hid (F3.out.call hg hst)
 clear hn hg hst hrel
 by_cases h1 : x1 = 1
 · have H1 := hid h1
   clear h1
   have b1 : (x1 == 1) = true := by rw [H1.out]; rfl
   go_wp2_with (first | (refine wpList_storeAt rfl 3 (.tmp 25) (.tmp 24) rfl rfl rfl (ty3 x4) G4.out.b1 (by rw [le_len0]; exact Nat.le_of_ble_eq_true rfl) ?_; intro W4 g4 hb4; have F4 := hid (G4.out.write g4 hb4 (C'' := lecells (LE.base x1 x2 x3 x4) nilS nilS) rfl); have c0 := F4.out.c 0 (v := .int .i64 x1) rfl; clear g4 hb4) | fail)
   refine (rRequest_read R s4 _ F4.out.st).mono ?_
   rintro e w5 ⟨v5, x5, s5, rfl, rfl, hg, hst, hrel⟩
   have R5 := hid hrel
   have G5 := hid (F4.out.call hg hst)
   clear hg hst hrel c0
   obtain ⟨X, hX⟩ : ∃ X : LE, X = { LE.base x1 x2 x3 x4 with req := x5 } := ⟨_, rfl⟩
   have hroot : X.root.length = 32 ∧ ∀ b ∈ X.root, b < 256 := hX ▸ z32_ok
   obtain ⟨V, hV⟩ : ∃ V : Value, V = leval X nilS nilS := ⟨_, rfl⟩
   have HT := hid (show TY Try.prog 111 (lecells X nilS nilS) V from hV ▸ tyLE rfl rfl hroot.1)
   have T5 := hid (tyReq x5)
   have HV := hid hV
   have HX := hid hX
   have HR := hid hroot
   clear hV hX hroot
   generalize valReq x5 = u5 at *
   go_wp2_with (first | (refine wpList_storeAt rfl 105 (.tmp 32) (.tmp 31) rfl rfl rfl T5.out G5.out.b1 (by rw [le_len0]; exact Nat.le_of_ble_eq_true rfl) ?_; intro W5 g5 hb5; have F5 := hid (G5.out.write g5 hb5 (C'' := lecells X nilS nilS) (by rw [HX.out]; rfl))) | (refine wpList_loadTY rfl 111 (.tmp 4) rfl rfl HT.out F5.out.b1 ?_) | (refine wpList_storeTYg rfl 111 (.tmp 2) (.tmp 56) rfl rfl rfl HT.out F5.out.b0 (by rw [lecells_len _ _ _ HR.out.1]; rfl) ?_; intro W9 g9 hb9) | fail)
   exact ret_cell rfl rfl HT.out hb9 rfl ⟨_, X, s5, rfl, ⟨nilS, nilS, HV.out, (HX.out ▸ repVers_nil _ _), (HX.out ▸ repSrcs_nil _ _), HR.out⟩, (F5.out.fing g9).1, (F5.out.fing g9).2, R1.out.bind (R2.out.bind (R3.out.bind (R4.out.bind (by unfold pLEt; rw [if_pos H1.out]; exact HX.out ▸ R5.out.bind (Rel.pure _ _)))))⟩
 have H1 := hid h1
 clear h1
 by_cases h2 : x1 = 2
 · have H2 := hid h2
   clear h2
   have b1 : (x1 == 1) = false := by simp; exact H1.out
   have b2 : (x1 == 2) = true := by rw [H2.out]; rfl
   go_wp2_with (first | (refine wpList_storeAt rfl 3 (.tmp 25) (.tmp 24) rfl rfl rfl (ty3 x4) G4.out.b1 (by rw [le_len0]; exact Nat.le_of_ble_eq_true rfl) ?_; intro W4 g4 hb4; have F4 := hid (G4.out.write g4 hb4 (C'' := lecells (LE.base x1 x2 x3 x4) nilS nilS) rfl); have c0 := F4.out.c 0 (v := .int .i64 x1) rfl; clear g4 hb4) | fail)
   refine (rVersions_read R s4 _ F4.out.st).mono ?_
   rintro e w5 ⟨v5, x5, s5, rfl, hrep5, hg, hst, hrel⟩
   have R5 := hid hrel
   have P5 := hid (hrep5.down (L' := w.heap.size + 2) (by have := F4.out.size; have := F4.out.hB; omega))
   have hone5 := slice_one hrep5.1
   have T5 := hid (tyVersS hrep5.1)
   have G5 := hid (F4.out.call hg hst)
   have ON5 := hid hone5
   have LB := hid (fun k (hk : v5.ownBlock = some k) => (hrep5.2 k hk).1)
   clear hg hst hrel c0 hone5
   go_wp2_with (first | (refine wpList_storeAt rfl 42 (.tmp 37) (.tmp 36) rfl rfl rfl T5.out G5.out.b1 (by rw [le_len0]; exact Nat.le_of_ble_eq_true rfl) ?_; intro W5 g5 hb5) | fail)
   have F5 := hid (G5.out.write g5 hb5 (C'' := lecells { LE.base x1 x2 x3 x4 with vers := x5 } v5 nilS) rfl)
   have P5a := hid ((hrep5.past g5 (by have := F4.out.size; omega)).down (L' := w1.heap.size + 1) (by have := F4.out.size; omega))
   clear g5 hb5 hrep5
   refine (rSources_read R s5 _ F5.out.st).mono ?_
   rintro e w6 ⟨v6, x6, s6, rfl, hrep6, hg, hst, hrel⟩
   have R6 := hid hrel
   have P6 := hid (hrep6.down (L' := w1.heap.size + 1) (by have := F5.out.size; omega))
   have P5b := hid (P5a.out.past hg (by have := F4.out.hB; omega))
   have T6 := hid (tySrcsS hrep6.1)
   have ON6 := hid (slice_one hrep6.1)
   have G6 := hid (F5.out.call hg hst)
   clear hg hst hrel hrep6
   obtain ⟨X, hX⟩ : ∃ X : LE, X = { LE.base x1 x2 x3 x4 with vers := x5, srcs := x6 } := ⟨_, rfl⟩
   have hroot : X.root.length = 32 ∧ ∀ b ∈ X.root, b < 256 := hX ▸ z32_ok
   obtain ⟨V, hV⟩ : ∃ V : Value, V = leval X v5 v6 := ⟨_, rfl⟩
   have HT := hid (show TY Try.prog 111 (lecells X v5 v6) V from hV ▸ tyLE ON5.out ON6.out hroot.1)
   have HV := hid hV
   have HX := hid hX
   have HR := hid hroot
   have hBB := F4.out.hB
   clear hV hX hroot
   go_wp2_with (first | (refine wpList_storeAt rfl 43 (.tmp 40) (.tmp 39) rfl rfl rfl T6.out G6.out.b1 (by rw [lecells_len _ _ _ z32_ok.1]; exact Nat.le_of_ble_eq_true rfl) ?_; intro W6 g6 hb6; have F6 := hid (G6.out.write g6 hb6 (C'' := lecells X v5 v6) (by rw [HX.out]; rfl))) | (refine wpList_loadTY rfl 111 (.tmp 4) rfl rfl HT.out F6.out.b1 ?_) | (refine wpList_storeTYg rfl 111 (.tmp 2) (.tmp 56) rfl rfl rfl HT.out F6.out.b0 (by rw [lecells_len _ _ _ HR.out.1]; rfl) ?_; intro W9 g9 hb9) | fail)
   exact ret_cell rfl rfl HT.out hb9 rfl ⟨_, X, s6, rfl, ⟨v5, v6, HV.out, (HX.out ▸ ((P5b.out.past g6 (by omega)).past g9 (by omega)).down (by omega)), (HX.out ▸ ((P6.out.past g6 (by omega)).past g9 (by omega)).down (by omega)), HR.out⟩, (F6.out.fing g9).1, (F6.out.fing g9).2, R1.out.bind (R2.out.bind (R3.out.bind (R4.out.bind (by unfold pLEt; rw [if_neg H1.out, if_pos H2.out]; exact HX.out ▸ R5.out.bind (R6.out.bind (Rel.pure _ _))))))⟩
 have H2 := hid h2
 clear h2
 by_cases h4 : x1 = 4
 · have H4 := hid h4
   clear h4
   have b1 : (x1 == 1) = false := by simp; exact H1.out
   have b2 : (x1 == 2) = false := by simp; exact H2.out
   have b4 : (x1 == 4) = true := by rw [H4.out]; rfl
   go_wp2_with (first | (refine wpList_storeAt rfl 3 (.tmp 25) (.tmp 24) rfl rfl rfl (ty3 x4) G4.out.b1 (by rw [le_len0]; exact Nat.le_of_ble_eq_true rfl) ?_; intro W4 g4 hb4; have F4 := hid (G4.out.write g4 hb4 (C'' := lecells (LE.base x1 x2 x3 x4) nilS nilS) rfl); have c0 := F4.out.c 0 (v := .int .i64 x1) rfl; clear g4 hb4) | fail)
   refine (rDigest_read R s4 _ F4.out.st).mono ?_
   rintro e w5 ⟨v5, x5, s5, rfl, ⟨rfl, hd5⟩, hg, hst, hrel⟩
   have R5 := hid hrel
   have G5 := hid (F4.out.call hg hst)
   clear hg hst hrel c0
   obtain ⟨X, hX⟩ : ∃ X : LE, X = { LE.base x1 x2 x3 x4 with root := x5 } := ⟨_, rfl⟩
   have hroot : X.root.length = 32 ∧ ∀ b ∈ X.root, b < 256 := hX ▸ hd5
   obtain ⟨V, hV⟩ : ∃ V : Value, V = leval X nilS nilS := ⟨_, rfl⟩
   have HT := hid (show TY Try.prog 111 (lecells X nilS nilS) V from hV ▸ tyLE rfl rfl hroot.1)
   have T5 := hid (tyDig x5 hd5.1)
   have HV := hid hV
   have HX := hid hX
   have HR := hid hroot
   have HLEN := hid hd5.1
   clear hV hX hroot hd5
   go_wp2_with (first | (refine wpList_storeAt rfl 45 (.tmp 45) (.tmp 44) rfl rfl rfl T5.out G5.out.b1 (by rw [le_len0, bv_length, HLEN.out]; decide) ?_; intro W5 g5 hb5; have F5 := hid (G5.out.write g5 hb5 (C'' := lecells X nilS nilS) (by rw [HX.out]; exact le_setroot (LE.base x1 x2 x3 x4) nilS nilS x5 HLEN.out))) | (refine wpList_loadTY rfl 111 (.tmp 4) rfl rfl HT.out F5.out.b1 ?_) | (refine wpList_storeTYg rfl 111 (.tmp 2) (.tmp 56) rfl rfl rfl HT.out F5.out.b0 (by rw [lecells_len _ _ _ HR.out.1]; rfl) ?_; intro W9 g9 hb9) | fail)
   exact ret_cell rfl rfl HT.out hb9 rfl ⟨_, X, s5, rfl, ⟨nilS, nilS, HV.out, (HX.out ▸ repVers_nil _ _), (HX.out ▸ repSrcs_nil _ _), HR.out⟩, (F5.out.fing g9).1, (F5.out.fing g9).2, R1.out.bind (R2.out.bind (R3.out.bind (R4.out.bind (by unfold pLEt; rw [if_neg H1.out, if_neg H2.out, if_pos H4.out]; exact HX.out ▸ R5.out.bind (Rel.pure _ _)))))⟩
 have H4 := hid h4
 clear h4
 by_cases h6 : x1 = 6
 · have H6 := hid h6
   clear h6
   have b1 : (x1 == 1) = false := by simp; exact H1.out
   have b2 : (x1 == 2) = false := by simp; exact H2.out
   have b4 : (x1 == 4) = false := by simp; exact H4.out
   have b6 : (x1 == 6) = true := by rw [H6.out]; rfl
   go_wp2_with (first | (refine wpList_storeAt rfl 3 (.tmp 25) (.tmp 24) rfl rfl rfl (ty3 x4) G4.out.b1 (by rw [le_len0]; exact Nat.le_of_ble_eq_true rfl) ?_; intro W4 g4 hb4; have F4 := hid (G4.out.write g4 hb4 (C'' := lecells (LE.base x1 x2 x3 x4) nilS nilS) rfl); have c0 := F4.out.c 0 (v := .int .i64 x1) rfl; clear g4 hb4) | fail)
   refine (rLink_read R s4 _ F4.out.st).mono ?_
   rintro e w5 ⟨v5, x5, s5, rfl, rfl, hg, hst, hrel⟩
   have R5 := hid hrel
   have G5 := hid (F4.out.call hg hst)
   clear hg hst hrel c0
   obtain ⟨X, hX⟩ : ∃ X : LE, X = { LE.base x1 x2 x3 x4 with lnk := x5 } := ⟨_, rfl⟩
   have hroot : X.root.length = 32 ∧ ∀ b ∈ X.root, b < 256 := hX ▸ z32_ok
   obtain ⟨V, hV⟩ : ∃ V : Value, V = leval X nilS nilS := ⟨_, rfl⟩
   have HT := hid (show TY Try.prog 111 (lecells X nilS nilS) V from hV ▸ tyLE rfl rfl hroot.1)
   have T5 := hid (tyLnk x5)
   have HV := hid hV
   have HX := hid hX
   have HR := hid hroot
   clear hV hX hroot
   generalize valLnk x5 = u5 at *
   go_wp2_with (first | (refine wpList_storeAt rfl 107 (.tmp 50) (.tmp 49) rfl rfl rfl T5.out G5.out.b1 (by rw [le_len0]; exact Nat.le_of_ble_eq_true rfl) ?_; intro W5 g5 hb5; have F5 := hid (G5.out.write g5 hb5 (C'' := lecells X nilS nilS) (by rw [HX.out]; rfl))) | (refine wpList_loadTY rfl 111 (.tmp 4) rfl rfl HT.out F5.out.b1 ?_) | (refine wpList_storeTYg rfl 111 (.tmp 2) (.tmp 56) rfl rfl rfl HT.out F5.out.b0 (by rw [lecells_len _ _ _ HR.out.1]; rfl) ?_; intro W9 g9 hb9) | fail)
   exact ret_cell rfl rfl HT.out hb9 rfl ⟨_, X, s5, rfl, ⟨nilS, nilS, HV.out, (HX.out ▸ repVers_nil _ _), (HX.out ▸ repSrcs_nil _ _), HR.out⟩, (F5.out.fing g9).1, (F5.out.fing g9).2, R1.out.bind (R2.out.bind (R3.out.bind (R4.out.bind (by unfold pLEt; rw [if_neg H1.out, if_neg H2.out, if_neg H4.out, if_pos H6.out]; exact HX.out ▸ R5.out.bind (Rel.pure _ _)))))⟩
 have H6 := hid h6
 clear h6
 by_cases h7 : x1 = 7
 · have H7 := hid h7
   clear h7
   have b1 : (x1 == 1) = false := by simp; exact H1.out
   have b2 : (x1 == 2) = false := by simp; exact H2.out
   have b4 : (x1 == 4) = false := by simp; exact H4.out
   have b6 : (x1 == 6) = false := by simp; exact H6.out
   have b7 : (x1 == 7) = true := by rw [H7.out]; rfl
   go_wp2_with (first | (refine wpList_storeAt rfl 3 (.tmp 25) (.tmp 24) rfl rfl rfl (ty3 x4) G4.out.b1 (by rw [le_len0]; exact Nat.le_of_ble_eq_true rfl) ?_; intro W4 g4 hb4; have F4 := hid (G4.out.write g4 hb4 (C'' := lecells (LE.base x1 x2 x3 x4) nilS nilS) rfl); have c0 := F4.out.c 0 (v := .int .i64 x1) rfl; clear g4 hb4) | fail)
   refine (rHold_read R s4 _ F4.out.st).mono ?_
   rintro e w5 ⟨v5, x5, s5, rfl, rfl, hg, hst, hrel⟩
   have R5 := hid hrel
   have G5 := hid (F4.out.call hg hst)
   clear hg hst hrel c0
   obtain ⟨X, hX⟩ : ∃ X : LE, X = { LE.base x1 x2 x3 x4 with hld := x5 } := ⟨_, rfl⟩
   have hroot : X.root.length = 32 ∧ ∀ b ∈ X.root, b < 256 := hX ▸ z32_ok
   obtain ⟨V, hV⟩ : ∃ V : Value, V = leval X nilS nilS := ⟨_, rfl⟩
   have HT := hid (show TY Try.prog 111 (lecells X nilS nilS) V from hV ▸ tyLE rfl rfl hroot.1)
   have T5 := hid (tyHld x5)
   have HV := hid hV
   have HX := hid hX
   have HR := hid hroot
   clear hV hX hroot
   generalize valHld x5 = u5 at *
   go_wp2_with (first | (refine wpList_storeAt rfl 109 (.tmp 55) (.tmp 54) rfl rfl rfl T5.out G5.out.b1 (by rw [le_len0]; exact Nat.le_of_ble_eq_true rfl) ?_; intro W5 g5 hb5; have F5 := hid (G5.out.write g5 hb5 (C'' := lecells X nilS nilS) (by rw [HX.out]; rfl))) | (refine wpList_loadTY rfl 111 (.tmp 4) rfl rfl HT.out F5.out.b1 ?_) | (refine wpList_storeTYg rfl 111 (.tmp 2) (.tmp 56) rfl rfl rfl HT.out F5.out.b0 (by rw [lecells_len _ _ _ HR.out.1]; rfl) ?_; intro W9 g9 hb9) | fail)
   exact ret_cell rfl rfl HT.out hb9 rfl ⟨_, X, s5, rfl, ⟨nilS, nilS, HV.out, (HX.out ▸ repVers_nil _ _), (HX.out ▸ repSrcs_nil _ _), HR.out⟩, (F5.out.fing g9).1, (F5.out.fing g9).2, R1.out.bind (R2.out.bind (R3.out.bind (R4.out.bind (by unfold pLEt; rw [if_neg H1.out, if_neg H2.out, if_neg H4.out, if_neg H6.out, if_pos H7.out]; exact HX.out ▸ R5.out.bind (Rel.pure _ _)))))⟩
 have H7 := hid h7
 clear h7
 · have b1 : (x1 == 1) = false := by simp; exact H1.out
   have b2 : (x1 == 2) = false := by simp; exact H2.out
   have b4 : (x1 == 4) = false := by simp; exact H4.out
   have b6 : (x1 == 6) = false := by simp; exact H6.out
   have b7 : (x1 == 7) = false := by simp; exact H7.out
   obtain ⟨V, hV⟩ : ∃ V : Value, V = leval (LE.base x1 x2 x3 x4) nilS nilS := ⟨_, rfl⟩
   have HT := hid (show TY Try.prog 111 (lecells (LE.base x1 x2 x3 x4) nilS nilS) V from hV ▸ tyLE rfl rfl z32_ok.1)
   have HV := hid hV
   clear hV
   go_wp2_with (first | (refine wpList_storeAt rfl 3 (.tmp 25) (.tmp 24) rfl rfl rfl (ty3 x4) G4.out.b1 (by rw [le_len0]; exact Nat.le_of_ble_eq_true rfl) ?_; intro W4 g4 hb4; have F4 := hid (G4.out.write g4 hb4 (C'' := lecells (LE.base x1 x2 x3 x4) nilS nilS) rfl); have c0 := F4.out.c 0 (v := .int .i64 x1) rfl; clear g4 hb4) | (refine wpList_loadTY rfl 111 (.tmp 4) rfl rfl HT.out F4.out.b1 ?_) | (refine wpList_storeTYg rfl 111 (.tmp 2) (.tmp 56) rfl rfl rfl HT.out F4.out.b0 (by rw [lecells_len _ _ _ z32_ok.1]; rfl) ?_; intro W9 g9 hb9) | fail)
   exact ret_cell rfl rfl HT.out hb9 rfl ⟨_, LE.base x1 x2 x3 x4, s4, rfl, ⟨nilS, nilS, HV.out, (repVers_nil _ _), (repSrcs_nil _ _), z32_ok⟩, (F4.out.fing g9).1, (F4.out.fing g9).2, R1.out.bind (R2.out.bind (R3.out.bind (R4.out.bind (by unfold pLEt; rw [if_neg H1.out, if_neg H2.out, if_neg H4.out, if_neg H6.out, if_neg H7.out]; exact Rel.pure _ _))))⟩
end Go.Proofs.Ytkeiffccllfkpaa
/- The law's own named and clean. -/
namespace Go.Proofs.Ytkeiffccllfkpaa
open Go.RowKit
set_option linter.unusedSimpArgs false
set_option linter.unusedVariables false
end Go.Proofs.Ytkeiffccllfkpaa
/- A region that keeps its order, by what is told of each operation. -/
namespace Go.Proofs.Ytkeiffccllfkpaa
open Go.RowKit
theorem OpSays.wpList {P : Program} {ops : Array Oper} {Q : Exit → Act → World → Prop} {o : Oper} {rest : List Oper} {a : Act} {w : World} {R : Value → World → Prop}
   (h : OpSays P ops o a w R) (hk : ∀ v w', R v w' → Go.wpList P ops Q rest (a.put o.dst v) w') : Go.wpList P ops Q (o :: rest) a w := by
 unfold Go.wpList
 unfold OpSays at h
 split
 · rename_i hw
   rw [if_pos hw] at h
   refine .inl ?_
   unfold Oper.wp
   generalize (execOp a.eval o).run P w = r at *
   cases r with
   | ok n w' =>
     cases n <;> simp only [Oper.upon] at h ⊢
     all_goals first
       | exact h.elim
       | exact hk _ _ h
       | exact h.mono fun e w'' ⟨v, he, hr⟩ => by subst he; exact hk _ _ hr
   | halt x w' => cases x <;> exact h.elim
 · rename_i hw
   rw [if_neg hw] at h
   exact hk _ _ h
end Go.Proofs.Ytkeiffccllfkpaa
/- The law's fits. -/
namespace Go.Proofs.Ytkeiffccllfkpaa
open Go.RowKit
set_option linter.unusedSimpArgs false
theorem wpList_onG {P : Program} {ops : Array Oper} {rest : List Oper} {o : Oper} {a : Act} {w : World} {Q : Exit → Act → World → Prop} (hw : Region.wanted o (yielded ops a.tmps) = true)
   (h : ∀ K, (∀ a' w', wpList P ops Q rest a' w' → K a' w') → Oper.wp P o a w K Q) : wpList P ops Q (o :: rest) a w := by
 unfold Go.wpList
 rw [if_pos hw]
 exact .inl (h _ fun _ _ h => h)
theorem wpList_loadG {P : Program} {ops : Array Oper} {rest : List Oper} {o : Oper} {a : Act} {w : World} {Q : Exit → Act → World → Prop} (hw : Region.wanted o (yielded ops a.tmps) = true) (T : TypeId) (x : Operand) (ho : o.op = .load T x)
   {b k : Nat} {cs : List Value} {v : Value} (hx : a.eval x = .pointer (some ⟨b, k, none⟩)) (ty : TY P T cs v) (hr : w.rangeAt b k cs)
   (h : wpList P ops Q rest (a.put o.dst v) w) : wpList P ops Q (o :: rest) a w := by
 refine wpList_onG hw fun K hK => ?_
 have hl := ty.load w b k hr
 unfold Oper.wp execOp
 simp only [ho, hx, Instr.loadAt, Instr.sureAddr, Sem.run_bind, Sem.run_pure, Result.andThen_ok, hl]
 exact hK _ _ h
end Go.Proofs.Ytkeiffccllfkpaa
