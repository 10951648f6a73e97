import Derived.Test.YtkeiffccllfkpaaRdM6
import Derived.Test.YtkeiffccllfkpaaRdM4
import Derived.Test.YtkeiffccllfkpaaRdM5
set_option linter.unusedSimpArgs false
set_option linter.unusedVariables false
set_option maxRecDepth 100000
set_option maxHeartbeats 1000000
/- The exported readers. (merged by merge.py) -/
namespace Go.Proofs.Ytkeiffccllfkpaa
/-! ## Rw1 -/
section
open Go.RowKit
theorem results_ctt {P : Program} {fn : Func} {p q r : Tmp} {T : TypeId} (h : fn.results = #[.cell p T, .tmp q, .tmp r]) {tmps : Array Value} {w : World} {b : Nat} {cs : List Value} {v : Value} {fr : Nat × Nat} {u : TypeId}
   (hp : tmps.getD p undef = ptr b) (t : TY P T cs v) (hb : w.heap[b]? = some (.cells cs.toArray u fr)) :
   (results fn tmps).run P w = .ok (.tuple #[v, tmps.getD q undef, tmps.getD r undef]) w := by
 have e0 := t.load w b 0 (rangeAt_row hb)
 have hp' : tmps[p]?.getD undef = .pointer (some ⟨b, 0, none⟩) := by simpa [ptr] using hp
 simp [results, h, hp', asAddr, e0]
theorem ReadPost.errS {α : Type} {p : Parser α} {xs : List Nat} {zero : Value} {rep : Nat → World → Value → α → Prop} {w w' : World} {o : Obj} {cs : List Value} {n : Nat} (hp : p xs = .error n) (hg : (w.alloc o).grownBy w' none) (hn : n ≠ 0) :
   ReadPost p xs zero rep w (.returned (.tuple #[zero, nilS, .int .i64 n])) (w'.setCells w.heap.size 0 cs) :=
 ReadPost.mkErr (grown_newR (grown_trans (World.grownBy_alloc w o none) hg) (setCells_grown w.heap.size cs 0 w') (Nat.le_refl _)) hp rfl hn
theorem ReadPost.okS {α : Type} {p : Parser α} {xs r : List Nat} {x : α} {zero : Value} {rep : Nat → World → Value → α → Prop} {w w' : World} {o : Obj} {cs : List Value} {v rv : Value} (hp : p xs = .ok (x, r)) (hg : (w.alloc o).grownBy w' none)
   (hrep : rep (w.alloc o).heap.size w' v x) (hsl : Sl w' 1 rv r.length (bv r)) (hrv : ∀ k, rv.ownBlock = some k → (w.alloc o).heap.size ≤ k)
   (hmono : ∀ (L : Nat) (w w' : World) (v : Value) (x : α), rep L w v x → w.heap.size ≤ w'.heap.size → (∀ k, L ≤ k → k < w.heap.size → w'.heap[k]? = w.heap[k]?) → ∀ L', L' ≤ L → rep L' w' v x) :
   ReadPost p xs zero rep w (.returned (.tuple #[v, rv, .int .i64 0])) (w'.setCells w.heap.size 0 cs) := by
 have gs := setCells_grown w.heap.size cs 0 w'
 have hsz : (w.alloc o).heap.size = w.heap.size + 1 := by simp
 unfold ReadPost
 rw [hp]
 refine ⟨grown_newR (grown_trans (World.grownBy_alloc w o none) hg) gs (Nat.le_refl _), v, rv, rfl, hmono _ _ _ _ _ hrep gs.size (fun k h1 h2 => gs.block k h2 (by simp; omega)) _ (by omega), hsl.kept gs (.inr fun e => by have := hrv _ e; omega), fun k hk => by have := hrv k hk; omega⟩
theorem rdxVersions_walk (v : Value) (xs : List Nat) (w : World) (hv : Sl w 1 v xs.length (bv xs)) (hl : xs.length ≤ 1099511627776) (hb : ∀ b ∈ xs, b < 256) (hvb : Lo v w.heap.size) :
   Calls Try.prog 30 #[v] w (ReadPost pVers xs (.slice none 0 0) repVers w) := by
 obtain ⟨ao, cap, rfl, hnc, hcm⟩ := hv.shape
 have HV := hid hv
 have HB := hid hb
 have HVB := hid hvb
 clear hv hb hvb
 go_enter Try.func30, Try.ntmps30
 go_wp2_with fail
 refine (readVers_walk pVers repVers _ xs _ HV.out hl HB.out HVB.out (fun w R L s hst => versions_walk R s w hst) ?_ repVers_mono).mono ?_
 · rintro L w v x ⟨h, _, _⟩
   obtain ⟨ao, cap, rfl, _⟩ := h.shape
   exact ⟨_, TY.one' Try.underlying42 rfl (by kernel_rfl) rfl, rfl⟩
 intro e w' h
 have H := hid h
 unfold ReadPost at h
 obtain ⟨hg, h⟩ := h
 cases hp : pVers xs with
 | error n =>
   rw [hp] at h
   obtain ⟨rfl, hn⟩ := h
   clear hp hg hn
   go_wp2
   go_ret3
   exact H.out
 | ok y =>
   obtain ⟨x, r⟩ := y
   rw [hp] at h
   obtain ⟨v, rv, rfl, h⟩ := h
   clear hp hg h
   go_wp2
   go_ret3
   exact H.out
theorem rdxSources_walk (v : Value) (xs : List Nat) (w : World) (hv : Sl w 1 v xs.length (bv xs)) (hl : xs.length ≤ 1099511627776) (hb : ∀ b ∈ xs, b < 256) (hvb : Lo v w.heap.size) :
   Calls Try.prog 32 #[v] w (ReadPost pSrcs xs (.slice none 0 0) repSrcs w) := by
 obtain ⟨ao, cap, rfl, hnc, hcm⟩ := hv.shape
 have HV := hid hv
 have HB := hid hb
 have HVB := hid hvb
 clear hv hb hvb
 go_enter Try.func32, Try.ntmps32
 go_wp2_with fail
 refine (readSrcs_walk pSrcs repSrcs _ xs _ HV.out hl HB.out HVB.out (fun w R L s hst => sources_walk R s w hst) ?_ repSrcs_mono).mono ?_
 · rintro L w v x ⟨h, _, _⟩
   obtain ⟨ao, cap, rfl, _⟩ := h.shape
   exact ⟨_, TY.one' Try.underlying43 rfl (by kernel_rfl) rfl, rfl⟩
 intro e w' h
 have H := hid h
 unfold ReadPost at h
 obtain ⟨hg, h⟩ := h
 cases hp : pSrcs xs with
 | error n =>
   rw [hp] at h
   obtain ⟨rfl, hn⟩ := h
   clear hp hg hn
   go_wp2
   go_ret3
   exact H.out
 | ok y =>
   obtain ⟨x, r⟩ := y
   rw [hp] at h
   obtain ⟨v, rv, rfl, h⟩ := h
   clear hp hg h
   go_wp2
   go_ret3
   exact H.out
theorem rdxRow_walk (v : Value) (xs : List Nat) (w : World) (hv : Sl w 1 v xs.length (bv xs)) (hl : xs.length ≤ 1099511627776) (hb : ∀ b ∈ xs, b < 256) (hvb : Lo v w.heap.size) :
   Calls Try.prog 39 #[v] w (ReadPost pRow xs (.slice none 0 0) repRow w) := by
 obtain ⟨ao, cap, rfl, hnc, hcm⟩ := hv.shape
 have HV := hid hv
 have HB := hid hb
 have HVB := hid hvb
 clear hv hb hvb
 go_enter Try.func39, Try.ntmps39
 go_wp2_with fail
 refine (readRow_walk pRow repRow _ xs _ HV.out hl HB.out HVB.out (fun w R L s hst => row_walk R s w hst) ?_ repRow_mono).mono ?_
 · rintro L w v x ⟨h, _, _⟩
   obtain ⟨ao, cap, rfl, _⟩ := h.shape
   exact ⟨_, TY.one' Try.underlying60 rfl (by kernel_rfl) rfl, rfl⟩
 intro e w' h
 have H := hid h
 unfold ReadPost at h
 obtain ⟨hg, h⟩ := h
 cases hp : pRow xs with
 | error n =>
   rw [hp] at h
   obtain ⟨rfl, hn⟩ := h
   clear hp hg hn
   go_wp2
   go_ret3
   exact H.out
 | ok y =>
   obtain ⟨x, r⟩ := y
   rw [hp] at h
   obtain ⟨v, rv, rfl, h⟩ := h
   clear hp hg h
   go_wp2
   go_ret3
   exact H.out
theorem rdxBag_walk (v : Value) (xs : List Nat) (w : World) (hv : Sl w 1 v xs.length (bv xs)) (hl : xs.length ≤ 1099511627776) (hb : ∀ b ∈ xs, b < 256) (hvb : Lo v w.heap.size) :
   Calls Try.prog 48 #[v] w (ReadPost pBag xs (.slice none 0 0) repBag w) := by
 obtain ⟨ao, cap, rfl, hnc, hcm⟩ := hv.shape
 have HV := hid hv
 have HB := hid hb
 have HVB := hid hvb
 clear hv hb hvb
 go_enter Try.func48, Try.ntmps48
 go_wp2_with fail
 refine (readBag_walk pBag repBag _ xs _ HV.out hl HB.out HVB.out (fun w R L s hst => bag_walk R s w hst) ?_ repBag_mono).mono ?_
 · rintro L w v x ⟨_, _, h, _, _⟩
   obtain ⟨ao, cap, rfl, _⟩ := h.shape
   exact ⟨_, TY.one' Try.underlying76 rfl (by kernel_rfl) rfl, rfl⟩
 intro e w' h
 have H := hid h
 unfold ReadPost at h
 obtain ⟨hg, h⟩ := h
 cases hp : pBag xs with
 | error n =>
   rw [hp] at h
   obtain ⟨rfl, hn⟩ := h
   clear hp hg hn
   go_wp2
   go_ret3
   exact H.out
 | ok y =>
   obtain ⟨x, r⟩ := y
   rw [hp] at h
   obtain ⟨v, rv, rfl, h⟩ := h
   clear hp hg h
   go_wp2
   go_ret3
   exact H.out
end
/-! ## Rw2 -/
section
open Go.RowKit
theorem rdxValue_walk (v : Value) (xs : List Nat) (w : World) (hv : Sl w 1 v xs.length (bv xs)) (hl : xs.length ≤ 1099511627776) (hb : ∀ b ∈ xs, b < 256) (hvb : Lo v w.heap.size) :
   Calls Try.prog 41 #[v] w (ReadPost pV xs (.agg #[(Value.int .i64 0), (Value.int .i64 0), (Value.string ⟨#[]⟩)]) (fun _ => repV) w) := by
 obtain ⟨ao, cap, rfl, hnc, hcm⟩ := hv.shape
 have hTY : ∀ (L : Nat) (w : World) (v : Value) (x : _), (fun _ => repV) L w v x → ∃ cs, TY Try.prog 67 cs v ∧ cs.length = 3 := by
   rintro L w v x rfl
   exact ⟨_, tyV x, rfl⟩
 have hga := World.grownBy_alloc w (.cells (List.toArray [(Value.int .i64 0), (Value.int .i64 0), (Value.string ⟨#[]⟩)]) 67) none
 have HV := hid (hv.kept hga (by cases (Value.slice ao xs.length cap).ownBlock <;> simp))
 have HB := hid hb
 have HVB := hid (hvb.mono (R' := (w.alloc (.cells (List.toArray [(Value.int .i64 0), (Value.int .i64 0), (Value.string ⟨#[]⟩)]) 67)).heap.size) (by simp))
 clear hv hb hvb hga
 go_enter Try.func41, Try.ntmps41
 go_wp2_with fail
 refine (readVal_walk pV ((fun _ => repV)) _ xs _ HV.out hl HB.out HVB.out (fun w R L s hst => value_walk R s w hst) hTY (fun _ _ _ _ _ h _ _ _ _ => h)).mono ?_
 intro e w' h
 have hz := row_of h.1 (heap_at (w := w) (o := .cells (List.toArray [(Value.int .i64 0), (Value.int .i64 0), (Value.string ⟨#[]⟩)]) 67) rfl) (by simp)
 have HZ := hid hz
 have H := hid h
 unfold ReadPost at h
 obtain ⟨hg, h⟩ := h
 clear hz
 cases hp : pV xs with
 | error n =>
   rw [hp] at h
   obtain ⟨rfl, hn⟩ := h
   have HP := hid hp
   have HG := hid hg
   clear hp hg
   generalize hV : (Value.agg #[(Value.int .i64 0), (Value.int .i64 0), (Value.string ⟨#[]⟩)]) = V
   obtain ⟨cs, ht, hcl⟩ : ∃ cs, TY Try.prog 67 cs V ∧ cs.length = 3 := ⟨[(Value.int .i64 0), (Value.int .i64 0), (Value.string ⟨#[]⟩)], by rw [← hV]; exact ztyVal, rfl⟩
   have HT := hid ht
   have hcl' : (List.toArray [(Value.int .i64 0), (Value.int .i64 0), (Value.string ⟨#[]⟩)]).size = cs.length := by rw [hcl]; rfl
   have HVV := hid hV
   clear ht hV hTY
   go_wp2_with (first | (refine wpList_storeTY rfl 67 (.tmp 2) (.tmp 7) rfl rfl rfl HT.out HZ.out hcl' ?_) | fail)
   have hVV := HVV.out
   clear HVV
   subst hVV
   exact bodyPost_ret (results_ctt rfl rfl HT.out (HT.out.stores HZ.out hcl').2.2) rfl (ReadPost.errS HP.out HG.out hn)
 | ok y =>
   obtain ⟨x, r⟩ := y
   rw [hp] at h
   obtain ⟨V, rv, rfl, h1, h2, h3⟩ := h
   obtain ⟨cs, ht, hcl⟩ := hTY (w.alloc (.cells (List.toArray [(Value.int .i64 0), (Value.int .i64 0), (Value.string ⟨#[]⟩)]) 67)).heap.size _ _ _ h1
   have HT := hid ht
   clear hTY
   have HC := hid (And.intro h1 (And.intro h2 h3))
   have HP := hid hp
   have HG := hid hg
   clear hp hg h1 h2 h3 ht
   have hcl' : (List.toArray [(Value.int .i64 0), (Value.int .i64 0), (Value.string ⟨#[]⟩)]).size = cs.length := by rw [hcl]; rfl
   go_wp2_with (first | (refine wpList_storeTY rfl 67 (.tmp 2) (.tmp 7) rfl rfl rfl HT.out HZ.out hcl' ?_) | fail)
   exact bodyPost_ret (results_ctt rfl rfl HT.out (HT.out.stores HZ.out hcl').2.2) rfl (ReadPost.okS HP.out HG.out HC.out.1 HC.out.2.1 HC.out.2.2 (fun _ _ _ _ _ h _ _ _ _ => h))
theorem rdxHold_walk (v : Value) (xs : List Nat) (w : World) (hv : Sl w 1 v xs.length (bv xs)) (hl : xs.length ≤ 1099511627776) (hb : ∀ b ∈ xs, b < 256) (hvb : Lo v w.heap.size) :
   Calls Try.prog 72 #[v] w (ReadPost pHld xs (.agg #[(Value.int .i64 0), (Value.int .i64 0), (Value.string ⟨#[]⟩), (Value.int .i64 0), (Value.int .i64 0), (Value.string ⟨#[]⟩), (Value.int .i64 0), (Value.int .i64 0), (Value.int .i64 0)]) (fun _ => repHld) w) := by
 obtain ⟨ao, cap, rfl, hnc, hcm⟩ := hv.shape
 have hTY : ∀ (L : Nat) (w : World) (v : Value) (x : _), (fun _ => repHld) L w v x → ∃ cs, TY Try.prog 109 cs v ∧ cs.length = 9 := by
   rintro L w v x rfl
   exact ⟨_, tyHld x, rfl⟩
 have hga := World.grownBy_alloc w (.cells (List.toArray [(Value.int .i64 0), (Value.int .i64 0), (Value.string ⟨#[]⟩), (Value.int .i64 0), (Value.int .i64 0), (Value.string ⟨#[]⟩), (Value.int .i64 0), (Value.int .i64 0), (Value.int .i64 0)]) 109) none
 have HV := hid (hv.kept hga (by cases (Value.slice ao xs.length cap).ownBlock <;> simp))
 have HB := hid hb
 have HVB := hid (hvb.mono (R' := (w.alloc (.cells (List.toArray [(Value.int .i64 0), (Value.int .i64 0), (Value.string ⟨#[]⟩), (Value.int .i64 0), (Value.int .i64 0), (Value.string ⟨#[]⟩), (Value.int .i64 0), (Value.int .i64 0), (Value.int .i64 0)]) 109)).heap.size) (by simp))
 clear hv hb hvb hga
 go_enter Try.func72, Try.ntmps72
 go_wp2_with fail
 refine (readHld_walk pHld ((fun _ => repHld)) _ xs _ HV.out hl HB.out HVB.out (fun w R L s hst => hold_walk R s w hst) hTY (fun _ _ _ _ _ h _ _ _ _ => h)).mono ?_
 intro e w' h
 have hz := row_of h.1 (heap_at (w := w) (o := .cells (List.toArray [(Value.int .i64 0), (Value.int .i64 0), (Value.string ⟨#[]⟩), (Value.int .i64 0), (Value.int .i64 0), (Value.string ⟨#[]⟩), (Value.int .i64 0), (Value.int .i64 0), (Value.int .i64 0)]) 109) rfl) (by simp)
 have HZ := hid hz
 have H := hid h
 unfold ReadPost at h
 obtain ⟨hg, h⟩ := h
 clear hz
 cases hp : pHld xs with
 | error n =>
   rw [hp] at h
   obtain ⟨rfl, hn⟩ := h
   have HP := hid hp
   have HG := hid hg
   clear hp hg
   generalize hV : (Value.agg #[(Value.int .i64 0), (Value.int .i64 0), (Value.string ⟨#[]⟩), (Value.int .i64 0), (Value.int .i64 0), (Value.string ⟨#[]⟩), (Value.int .i64 0), (Value.int .i64 0), (Value.int .i64 0)]) = V
   obtain ⟨cs, ht, hcl⟩ : ∃ cs, TY Try.prog 109 cs V ∧ cs.length = 9 := ⟨[(Value.int .i64 0), (Value.int .i64 0), (Value.string ⟨#[]⟩), (Value.int .i64 0), (Value.int .i64 0), (Value.string ⟨#[]⟩), (Value.int .i64 0), (Value.int .i64 0), (Value.int .i64 0)], by rw [← hV]; exact ztyHld, rfl⟩
   have HT := hid ht
   have hcl' : (List.toArray [(Value.int .i64 0), (Value.int .i64 0), (Value.string ⟨#[]⟩), (Value.int .i64 0), (Value.int .i64 0), (Value.string ⟨#[]⟩), (Value.int .i64 0), (Value.int .i64 0), (Value.int .i64 0)]).size = cs.length := by rw [hcl]; rfl
   have HVV := hid hV
   clear ht hV hTY
   go_wp2_with (first | (refine wpList_storeTY rfl 109 (.tmp 2) (.tmp 7) rfl rfl rfl HT.out HZ.out hcl' ?_) | fail)
   have hVV := HVV.out
   clear HVV
   subst hVV
   exact bodyPost_ret (results_ctt rfl rfl HT.out (HT.out.stores HZ.out hcl').2.2) rfl (ReadPost.errS HP.out HG.out hn)
 | ok y =>
   obtain ⟨x, r⟩ := y
   rw [hp] at h
   obtain ⟨V, rv, rfl, h1, h2, h3⟩ := h
   obtain ⟨cs, ht, hcl⟩ := hTY (w.alloc (.cells (List.toArray [(Value.int .i64 0), (Value.int .i64 0), (Value.string ⟨#[]⟩), (Value.int .i64 0), (Value.int .i64 0), (Value.string ⟨#[]⟩), (Value.int .i64 0), (Value.int .i64 0), (Value.int .i64 0)]) 109)).heap.size _ _ _ h1
   have HT := hid ht
   clear hTY
   have HC := hid (And.intro h1 (And.intro h2 h3))
   have HP := hid hp
   have HG := hid hg
   clear hp hg h1 h2 h3 ht
   have hcl' : (List.toArray [(Value.int .i64 0), (Value.int .i64 0), (Value.string ⟨#[]⟩), (Value.int .i64 0), (Value.int .i64 0), (Value.string ⟨#[]⟩), (Value.int .i64 0), (Value.int .i64 0), (Value.int .i64 0)]).size = cs.length := by rw [hcl]; rfl
   go_wp2_with (first | (refine wpList_storeTY rfl 109 (.tmp 2) (.tmp 7) rfl rfl rfl HT.out HZ.out hcl' ?_) | fail)
   exact bodyPost_ret (results_ctt rfl rfl HT.out (HT.out.stores HZ.out hcl').2.2) rfl (ReadPost.okS HP.out HG.out HC.out.1 HC.out.2.1 HC.out.2.2 (fun _ _ _ _ _ h _ _ _ _ => h))
theorem rdxChange_walk (v : Value) (xs : List Nat) (w : World) (hv : Sl w 1 v xs.length (bv xs)) (hl : xs.length ≤ 1099511627776) (hb : ∀ b ∈ xs, b < 256) (hvb : Lo v w.heap.size) :
   Calls Try.prog 52 #[v] w (ReadPost pCh xs (.agg #[(Value.int .i64 0), (Value.int .i64 0), (Value.int .i64 0), (Value.int .i64 0), (Value.slice none 0 0), (Value.int .i64 0), (Value.int .i64 0), (Value.string ⟨#[]⟩), (Value.int .i64 0), (Value.int .i64 0), (Value.int .i64 0), (Value.string ⟨#[]⟩)]) repCh w) := by
 obtain ⟨ao, cap, rfl, hnc, hcm⟩ := hv.shape
 have hTY : ∀ (L : Nat) (w : World) (v : Value) (x : _), repCh L w v x → ∃ cs, TY Try.prog 86 cs v ∧ cs.length = 12 := by
   rintro L w v x ⟨r, rfl, hr⟩
   exact ⟨_, tyCh x r (oneCell_sl hr.1), rfl⟩
 have hga := World.grownBy_alloc w (.cells (List.toArray [(Value.int .i64 0), (Value.int .i64 0), (Value.int .i64 0), (Value.int .i64 0), (Value.slice none 0 0), (Value.int .i64 0), (Value.int .i64 0), (Value.string ⟨#[]⟩), (Value.int .i64 0), (Value.int .i64 0), (Value.int .i64 0), (Value.string ⟨#[]⟩)]) 86) none
 have HV := hid (hv.kept hga (by cases (Value.slice ao xs.length cap).ownBlock <;> simp))
 have HB := hid hb
 have HVB := hid (hvb.mono (R' := (w.alloc (.cells (List.toArray [(Value.int .i64 0), (Value.int .i64 0), (Value.int .i64 0), (Value.int .i64 0), (Value.slice none 0 0), (Value.int .i64 0), (Value.int .i64 0), (Value.string ⟨#[]⟩), (Value.int .i64 0), (Value.int .i64 0), (Value.int .i64 0), (Value.string ⟨#[]⟩)]) 86)).heap.size) (by simp))
 clear hv hb hvb hga
 go_enter Try.func52, Try.ntmps52
 go_wp2_with fail
 refine (readCh_walk pCh (repCh) _ xs _ HV.out hl HB.out HVB.out (fun w R L s hst => change_walk R s w hst) hTY repCh_mono).mono ?_
 intro e w' h
 have hz := row_of h.1 (heap_at (w := w) (o := .cells (List.toArray [(Value.int .i64 0), (Value.int .i64 0), (Value.int .i64 0), (Value.int .i64 0), (Value.slice none 0 0), (Value.int .i64 0), (Value.int .i64 0), (Value.string ⟨#[]⟩), (Value.int .i64 0), (Value.int .i64 0), (Value.int .i64 0), (Value.string ⟨#[]⟩)]) 86) rfl) (by simp)
 have HZ := hid hz
 have H := hid h
 unfold ReadPost at h
 obtain ⟨hg, h⟩ := h
 clear hz
 cases hp : pCh xs with
 | error n =>
   rw [hp] at h
   obtain ⟨rfl, hn⟩ := h
   have HP := hid hp
   have HG := hid hg
   clear hp hg
   generalize hV : (Value.agg #[(Value.int .i64 0), (Value.int .i64 0), (Value.int .i64 0), (Value.int .i64 0), (Value.slice none 0 0), (Value.int .i64 0), (Value.int .i64 0), (Value.string ⟨#[]⟩), (Value.int .i64 0), (Value.int .i64 0), (Value.int .i64 0), (Value.string ⟨#[]⟩)]) = V
   obtain ⟨cs, ht, hcl⟩ : ∃ cs, TY Try.prog 86 cs V ∧ cs.length = 12 := ⟨[(Value.int .i64 0), (Value.int .i64 0), (Value.int .i64 0), (Value.int .i64 0), (Value.slice none 0 0), (Value.int .i64 0), (Value.int .i64 0), (Value.string ⟨#[]⟩), (Value.int .i64 0), (Value.int .i64 0), (Value.int .i64 0), (Value.string ⟨#[]⟩)], by rw [← hV]; exact ztyCh, rfl⟩
   have HT := hid ht
   have hcl' : (List.toArray [(Value.int .i64 0), (Value.int .i64 0), (Value.int .i64 0), (Value.int .i64 0), (Value.slice none 0 0), (Value.int .i64 0), (Value.int .i64 0), (Value.string ⟨#[]⟩), (Value.int .i64 0), (Value.int .i64 0), (Value.int .i64 0), (Value.string ⟨#[]⟩)]).size = cs.length := by rw [hcl]; rfl
   have HVV := hid hV
   clear ht hV hTY
   go_wp2_with (first | (refine wpList_storeTY rfl 86 (.tmp 2) (.tmp 7) rfl rfl rfl HT.out HZ.out hcl' ?_) | fail)
   have hVV := HVV.out
   clear HVV
   subst hVV
   exact bodyPost_ret (results_ctt rfl rfl HT.out (HT.out.stores HZ.out hcl').2.2) rfl (ReadPost.errS HP.out HG.out hn)
 | ok y =>
   obtain ⟨x, r⟩ := y
   rw [hp] at h
   obtain ⟨V, rv, rfl, h1, h2, h3⟩ := h
   obtain ⟨cs, ht, hcl⟩ := hTY (w.alloc (.cells (List.toArray [(Value.int .i64 0), (Value.int .i64 0), (Value.int .i64 0), (Value.int .i64 0), (Value.slice none 0 0), (Value.int .i64 0), (Value.int .i64 0), (Value.string ⟨#[]⟩), (Value.int .i64 0), (Value.int .i64 0), (Value.int .i64 0), (Value.string ⟨#[]⟩)]) 86)).heap.size _ _ _ h1
   have HT := hid ht
   clear hTY
   have HC := hid (And.intro h1 (And.intro h2 h3))
   have HP := hid hp
   have HG := hid hg
   clear hp hg h1 h2 h3 ht
   have hcl' : (List.toArray [(Value.int .i64 0), (Value.int .i64 0), (Value.int .i64 0), (Value.int .i64 0), (Value.slice none 0 0), (Value.int .i64 0), (Value.int .i64 0), (Value.string ⟨#[]⟩), (Value.int .i64 0), (Value.int .i64 0), (Value.int .i64 0), (Value.string ⟨#[]⟩)]).size = cs.length := by rw [hcl]; rfl
   go_wp2_with (first | (refine wpList_storeTY rfl 86 (.tmp 2) (.tmp 7) rfl rfl rfl HT.out HZ.out hcl' ?_) | fail)
   exact bodyPost_ret (results_ctt rfl rfl HT.out (HT.out.stores HZ.out hcl').2.2) rfl (ReadPost.okS HP.out HG.out HC.out.1 HC.out.2.1 HC.out.2.2 repCh_mono)
theorem rdxRecord_walk (v : Value) (xs : List Nat) (w : World) (hv : Sl w 1 v xs.length (bv xs)) (hl : xs.length ≤ 1099511627776) (hb : ∀ b ∈ xs, b < 256) (hvb : Lo v w.heap.size) :
   Calls Try.prog 56 #[v] w (ReadPost pRec xs (.agg #[(Value.slice none 0 0), (Value.slice none 0 0), (Value.int .i64 0)]) repRec w) := by
 obtain ⟨ao, cap, rfl, hnc, hcm⟩ := hv.shape
 have hTY : ∀ (L : Nat) (w : World) (v : Value) (x : _), repRec L w v x → ∃ cs, TY Try.prog 95 cs v ∧ cs.length = 3 := by
   rintro L w v x ⟨r, q, rfl, hr, hq⟩
   exact ⟨_, tyRec r q x.day (oneCell_sl hr.1) (oneCell_sl hq.1), rfl⟩
 have hga := World.grownBy_alloc w (.cells (List.toArray [(Value.slice none 0 0), (Value.slice none 0 0), (Value.int .i64 0)]) 95) none
 have HV := hid (hv.kept hga (by cases (Value.slice ao xs.length cap).ownBlock <;> simp))
 have HB := hid hb
 have HVB := hid (hvb.mono (R' := (w.alloc (.cells (List.toArray [(Value.slice none 0 0), (Value.slice none 0 0), (Value.int .i64 0)]) 95)).heap.size) (by simp))
 clear hv hb hvb hga
 go_enter Try.func56, Try.ntmps56
 go_wp2_with fail
 refine (readRec_walk pRec (repRec) _ xs _ HV.out hl HB.out HVB.out (fun w R L s hst => record_walk R s w hst) hTY repRec_mono).mono ?_
 intro e w' h
 have hz := row_of h.1 (heap_at (w := w) (o := .cells (List.toArray [(Value.slice none 0 0), (Value.slice none 0 0), (Value.int .i64 0)]) 95) rfl) (by simp)
 have HZ := hid hz
 have H := hid h
 unfold ReadPost at h
 obtain ⟨hg, h⟩ := h
 clear hz
 cases hp : pRec xs with
 | error n =>
   rw [hp] at h
   obtain ⟨rfl, hn⟩ := h
   have HP := hid hp
   have HG := hid hg
   clear hp hg
   generalize hV : (Value.agg #[(Value.slice none 0 0), (Value.slice none 0 0), (Value.int .i64 0)]) = V
   obtain ⟨cs, ht, hcl⟩ : ∃ cs, TY Try.prog 95 cs V ∧ cs.length = 3 := ⟨[(Value.slice none 0 0), (Value.slice none 0 0), (Value.int .i64 0)], by rw [← hV]; exact ztyRec, rfl⟩
   have HT := hid ht
   have hcl' : (List.toArray [(Value.slice none 0 0), (Value.slice none 0 0), (Value.int .i64 0)]).size = cs.length := by rw [hcl]; rfl
   have HVV := hid hV
   clear ht hV hTY
   go_wp2_with (first | (refine wpList_storeTY rfl 95 (.tmp 2) (.tmp 7) rfl rfl rfl HT.out HZ.out hcl' ?_) | fail)
   have hVV := HVV.out
   clear HVV
   subst hVV
   exact bodyPost_ret (results_ctt rfl rfl HT.out (HT.out.stores HZ.out hcl').2.2) rfl (ReadPost.errS HP.out HG.out hn)
 | ok y =>
   obtain ⟨x, r⟩ := y
   rw [hp] at h
   obtain ⟨V, rv, rfl, h1, h2, h3⟩ := h
   obtain ⟨cs, ht, hcl⟩ := hTY (w.alloc (.cells (List.toArray [(Value.slice none 0 0), (Value.slice none 0 0), (Value.int .i64 0)]) 95)).heap.size _ _ _ h1
   have HT := hid ht
   clear hTY
   have HC := hid (And.intro h1 (And.intro h2 h3))
   have HP := hid hp
   have HG := hid hg
   clear hp hg h1 h2 h3 ht
   have hcl' : (List.toArray [(Value.slice none 0 0), (Value.slice none 0 0), (Value.int .i64 0)]).size = cs.length := by rw [hcl]; rfl
   go_wp2_with (first | (refine wpList_storeTY rfl 95 (.tmp 2) (.tmp 7) rfl rfl rfl HT.out HZ.out hcl' ?_) | fail)
   exact bodyPost_ret (results_ctt rfl rfl HT.out (HT.out.stores HZ.out hcl').2.2) rfl (ReadPost.okS HP.out HG.out HC.out.1 HC.out.2.1 HC.out.2.2 repRec_mono)
end
end Go.Proofs.Ytkeiffccllfkpaa
/- Small laws for the walks of the laws. -/
namespace Go.Proofs.Ytkeiffccllfkpaa
open Go.RowKit
theorem wpList_storeTYg {P : Program} {ops : Array Oper} {rest : List Oper} {o : Oper} {a : Act} {w : World} {Q : Exit → Act → World → Prop} (hgd : o.guard = none) (T : TypeId) (x y : Operand) (ho : o.op = .store T x y)
   {b : Nat} {cs : List Value} {c0 : Array Value} {v : Value} {t : TypeId} (hx : a.eval x = .pointer (some ⟨b, 0, none⟩)) (hy : a.eval y = v) (ty : TY P T cs v) (hb : w.heap[b]? = some (.cells c0 t (0, 0))) (hc : c0.size = cs.length)
   (h : ∀ w', w.grownBy w' (some b) → w'.heap[b]? = some (.cells cs.toArray t (0, 0)) → wpList P ops Q rest (a.put o.dst undef) w') : wpList P ops Q (o :: rest) a w :=
 wpList_storeTY hgd T x y ho hx hy ty hb hc (h _ (ty.stores hb hc).2.1 (ty.stores hb hc).2.2)
theorem Own.kn {w w' : World} {e : TypeId} {sz : Nat} {v : Value} {n : Nat} {xs : List Value} (h : Own w e sz v n xs) (hg : w.grownBy w' Option.none) : Own w' e sz v n xs := h.kept hg (by cases v.ownBlock <;> simp)
end Go.Proofs.Ytkeiffccllfkpaa
/- The reference's Value, Row, CleanRow, SameRow. -/
namespace Go.Proofs.Ytkeiffccllfkpaa
open Go.RowKit
end Go.Proofs.Ytkeiffccllfkpaa
/- SameRow; lists of equal things compared. -/
namespace Go.Proofs.Ytkeiffccllfkpaa
open Go.RowKit
deriving instance DecidableEq for V
theorem toList_inj {a b : ByteArray} (h : a.toList = b.toList) : a = b := by
 rw [ByteArray.toList_eq, ByteArray.toList_eq] at h
 exact ByteArray.ext (Array.ext' h)
theorem sameRow22_walk (a b : Value) (l m : List V) (w : World) (ha : Sl w 3 a l.length (l.flatMap vcells)) (hb : Sl w 3 b m.length (m.flatMap vcells)) :
   Calls Try.prog 121 #[a, b] w fun e w' => e = .returned (.bool (decide (l = m))) ∧ w.grownBy w' none := by
 obtain ⟨ao, cap, rfl, hnc, hcm⟩ := ha.shape
 obtain ⟨bo, bcap, rfl, hnc2, hcm2⟩ := hb.shape
 have HA := hid ha
 have HB := hid hb
 clear ha hb
 go_enter Try.func121, Try.ntmps121
 by_cases hlen : l.length = m.length
 · have e0 : ((l.length : Int) != m.length) = false := by simp; omega
   have HLEN := hid hlen
   clear hlen
   go_wp2
   go_loopw [5] (fun i wr => ∃ k : Nat, k ≤ l.length ∧ i = .int .i64 k ∧ l.take k = m.take k ∧ w.grownBy wr none) (fun i _ => l.length - (intOf i).toNat)
   case atStart => exact ⟨0, Nat.zero_le _, rfl, rfl, World.grownBy.refl _ _⟩
   case round =>
     obtain ⟨k, hk, rfl, ht, hg⟩ := hrel
     by_cases hlt : k < l.length
     · have hm : k < m.length := by have := HLEN.out; omega
       obtain ⟨blk, off, rfl, hc⟩ := (HA.out.kept hg (by cases (Value.slice ao l.length cap).ownBlock <;> simp)).elem (fun x _ => rfl) (by decide) k hlt
       obtain ⟨blk2, off2, rfl, hc2⟩ := (HB.out.kept hg (by cases (Value.slice bo m.length bcap).ownBlock <;> simp)).elem (fun x _ => rfl) (by decide) k hm
       have h0 : wr.cell? ⟨blk, off + k * 3, none⟩ = some (.int .i64 l[k].kind) := hc 0 _ rfl
       have h1 : wr.cell? ⟨blk, off + k * 3 + 1, none⟩ = some (.int .i64 l[k].int) := hc 1 _ rfl
       have h2 : wr.cell? ⟨blk, off + k * 3 + 2, none⟩ = some (.string l[k].text) := hc 2 _ rfl
       have g0 : wr.cell? ⟨blk2, off2 + k * 3, none⟩ = some (.int .i64 m[k].kind) := hc2 0 _ rfl
       have g1 : wr.cell? ⟨blk2, off2 + k * 3 + 1, none⟩ = some (.int .i64 m[k].int) := hc2 1 _ rfl
       have g2 : wr.cell? ⟨blk2, off2 + k * 3 + 2, none⟩ = some (.string m[k].text) := hc2 2 _ rfl
       have HT := hid (take_succ_eq k hlt hm ht)
       have HN := hid (take_eq_of HLEN.out k hlt hm ht)
       have HG := hid hg
       generalize l[k] = x at *
       generalize m[k] = y at *
       obtain ⟨xt, xc, xs⟩ := x
       obtain ⟨yt, yc, ys⟩ := y
       clear hc hc2 hg
       simp only at *
       by_cases q : (⟨xt, xc, xs⟩ : V) = ⟨yt, yc, ys⟩
       · cases q
         go_wp2
         go_region
         go_wp2
         go_roundw
         case rel => exact ⟨k + 1, by omega, by go_num, HT.out (by simp), grown_trans HG.out (grown_drew wr)⟩
         case measure => simp [intOf]; omega
       · have hlm : (decide (l = m)) = false := decide_eq_false (HN.out q)
         have q2 : xt = yt → xc = yc → xs = ys → False := fun h1 h2 h3 => q (by subst h1 h2 h3; rfl)
         have HQ := hid hlm
         clear q hlm
         by_cases q1 : xt = yt
         · by_cases q3 : xc = yc
           · by_cases q4 : xs = ys
             · exact (q2 q1 q3 q4).elim
             · have q5 : ¬ xs.toList = ys.toList := fun e => q4 (toList_inj e)
               clear q2
               go_wp2
               go_region
               go_wp2
               go_ret
               exact ⟨by rw [HQ.out]; rfl, grown_trans HG.out (grown_drew wr)⟩
           · clear q2
             go_wp2
             go_region
             go_wp2
             go_ret
             exact ⟨by rw [HQ.out]; rfl, grown_trans HG.out (grown_drew wr)⟩
         · clear q2
           go_wp2
           go_region
           go_wp2
           go_ret
           exact ⟨by rw [HQ.out]; rfl, grown_trans HG.out (grown_drew wr)⟩
     · obtain rfl : k = l.length := by omega
       have hlm : (decide (l = m)) = true := decide_eq_true (by rw [List.take_length, List.take_of_length_le (by have := HLEN.out; omega)] at ht; exact ht)
       have HQ := hid hlm
       have HG := hid hg
       clear hlm hg ht
       go_wp2
       go_ret
       exact ⟨by rw [HQ.out]; rfl, HG.out⟩
 · have e0 : ((l.length : Int) != m.length) = true := by simp; omega
   have hlm : (decide (l = m)) = false := decide_eq_false (fun e => hlen (by rw [e]))
   have HQ := hid hlm
   clear hlm
   go_wp2
   go_ret
   exact ⟨by rw [HQ.out]; rfl, World.grownBy.refl _ _⟩
theorem sameRow_walk (a b : Value) (l m : List V) (w : World) (ha : Sl w 3 a l.length (l.flatMap vcells)) (hb : Sl w 3 b m.length (m.flatMap vcells)) :
   Calls Try.prog 45 #[a, b] w fun e w' => e = .returned (.bool (decide (l = m))) ∧ w.grownBy w' none := by
 obtain ⟨ao, cap, rfl, hnc, hcm⟩ := ha.shape
 obtain ⟨bo, bcap, rfl, hnc2, hcm2⟩ := hb.shape
 have HA := hid ha
 have HB := hid hb
 clear ha hb
 go_enter Try.func45, Try.ntmps45
 go_wp2_with fail
 refine (sameRow22_walk _ _ l m w HA.out HB.out).mono ?_
 rintro e w1 ⟨rfl, hg⟩
 go_wp2
 go_ret
 exact ⟨rfl, hg⟩
theorem sameInts_walk (a b : Value) (l : List Int) (w : World) (ha : Sl w 1 a l.length (l.map (Value.int .i64))) (hb : Sl w 1 b l.length (l.map (Value.int .i64))) :
   Calls Try.prog 186 #[a, b] w fun e w' => e = .returned (.bool true) ∧ w.grownBy w' none := by
 obtain ⟨ao, cap, rfl, hnc, hcm⟩ := ha.shape
 obtain ⟨bo, bcap, rfl, hnc2, hcm2⟩ := hb.shape
 have HA := hid ha
 have HB := hid hb
 clear ha hb
 go_enter Try.func186, Try.ntmps186
 go_wp2
 go_loopw [5] (fun i wr => ∃ k : Nat, k ≤ l.length ∧ i = .int .i64 k ∧ w.grownBy wr none) (fun i _ => l.length - (intOf i).toNat)
 case atStart => exact ⟨0, Nat.zero_le _, rfl, World.grownBy.refl _ _⟩
 case round =>
   obtain ⟨k, hk, rfl, hg⟩ := hrel
   by_cases hlt : k < l.length
   · obtain ⟨blk, off, rfl, hc⟩ := (HA.out.kept hg (by cases (Value.slice ao l.length cap).ownBlock <;> simp)).at k (by simpa using hlt)
     obtain ⟨blk2, off2, rfl, hc2⟩ := (HB.out.kept hg (by cases (Value.slice bo l.length bcap).ownBlock <;> simp)).at k (by simpa using hlt)
     have h0 : wr.cell? ⟨blk, off + k, none⟩ = some (.int .i64 l[k]) := by rw [hc k (by simpa using hlt), List.getElem_map]
     have g0 : wr.cell? ⟨blk2, off2 + k, none⟩ = some (.int .i64 l[k]) := by rw [hc2 k (by simpa using hlt), List.getElem_map]
     have HG := hid hg
     generalize l[k] = x at *
     clear hc hc2 hg
     go_wp2
     go_region
     go_wp2
     go_roundw
     case rel => exact ⟨k + 1, by omega, by go_num, grown_trans HG.out (grown_drew wr)⟩
     case measure => simp [intOf]; omega
   · obtain rfl : k = l.length := by omega
     have HG := hid hg
     clear hg
     go_wp2
     go_ret
     exact ⟨rfl, HG.out⟩
end Go.Proofs.Ytkeiffccllfkpaa
/- Further obligations of the operations of a region that draws. -/
namespace Go.Proofs.Ytkeiffccllfkpaa
open Go.RowKit
theorem Sl.kn {w w' : World} {sz : Nat} {v : Value} {n : Nat} {xs : List Value} (h : Sl w sz v n xs) (hg : w.grownBy w' none) : Sl w' sz v n xs := h.kept hg (by cases v.ownBlock <;> simp)
section
variable {P : Program} {ops : Array Oper} {L : List Sp} {n : Nat} {w0 : World} {o : Oper}
theorem ob_neI {ty ty2 : TypeId} {x y : Operand} {k : IntKind} {a b : Int} {d : Nat} (ho : o.op = .binOp .neq ty x y ty2) (hd : o.dst = some d) (hg : GOK ops L n o.guard) (hx : OpdIs L n x (.int k a)) (hy : OpdIs L n y (.int k b)) (hab : a = b) (hv : ∀ w, At L d w (.bool false)) : Ob P ops L n w0 o :=
 ob_bin ho hd hg hx hy (fun w => by subst hab; simp [eqGuard, binOp_neq]) hv
theorem ob_pickF {x y z : Operand} {v : Value} {d : Nat} (ho : o.op = .pick x y z) (hd : o.dst = some d) (hg : GOK ops L n o.guard) (hx : OpdIs L n x (.bool false)) (hz : OpdIs L n z v) (hv : ∀ w, At L d w v) : Ob P ops L n w0 o := by
 refine ob_run hg fun a w hw hl hsz => ⟨v, ?_, fun d' hd' => ?_⟩
 · have e1 := hx.eval (o := o) (by simp [ho, Op.operands]) hl
   have e2 := hz.eval (o := o) (by simp [ho, Op.operands]) hl
   simp [execOp, ho, e1, e2, asBool]
 · rw [hd] at hd'
   obtain rfl := Option.some.inj hd'
   exact hv w
theorem ob_index {ty : TypeId} {x y : Operand} {d : Nat} {p k v : Value} (ho : o.op = .indexAddr ty x y) (hd : o.dst = some d) (hg : GOK ops L n o.guard) (hx : OpdIs L n x p) (hy : OpdIs L n y k) (hrun : ∀ w, (Instr.indexAt ty p k).run P w = .ok v w) (hv : ∀ w, At L d w v) : Ob P ops L n w0 o := by
 refine ob_run hg fun a w hw hl hsz => ⟨v, ?_, fun d' hd' => ?_⟩
 · have e1 := hx.eval (o := o) (by simp [ho, Op.operands]) hl
   have e2 := hy.eval (o := o) (by simp [ho, Op.operands]) hl
   simp only [execOp, ho, e1, e2, Sem.run_bind, Sem.run_pure, Result.andThen_ok, hrun w]
 · rw [hd] at hd'
   obtain rfl := Option.some.inj hd'
   exact hv w
theorem ob_not {x : Operand} {ty : TypeId} {b : Bool} {d : Nat} (ho : o.op = .unOp .not ty x) (hd : o.dst = some d) (hg : GOK ops L n o.guard) (hx : OpdIs L n x (.bool b)) (hv : ∀ w, At L d w (.bool (!b))) : Ob P ops L n w0 o := by
 refine ob_run hg fun a w hw hl hsz => ⟨.bool (!b), ?_, fun d' hd' => ?_⟩
 · have e1 := hx.eval (o := o) (by simp [ho, Op.operands]) hl
   simp only [execOp, ho, e1]
   simp [Op.unary, go_sem]
 · rw [hd] at hd'
   obtain rfl := Option.some.inj hd'
   exact hv w
end
end Go.Proofs.Ytkeiffccllfkpaa
/- The reference's reader: integers, texts and values from arbitrary bytes. -/
namespace Go.Proofs.Ytkeiffccllfkpaa
open Go.RowKit
set_option linter.unusedSimpArgs false
set_option linter.unusedVariables false
attribute [local go_sem] Oper.semAt_some
theorem run_slice_sl {P : Program} {t e : TypeId} {sz : Nat} (ht : P.underlying t = some (.slice e)) (hs : (P.info? e).map (·.size) = some sz) {w : World} {ao : Option Addr} {n cap : Nat} {xs : List Value} (h : Sl w sz (.slice ao n cap) n xs)
   (lo hi : Nat) (l u : Option Value) (hl : l = some (.int .i64 lo) ∨ (l = none ∧ lo = 0)) (hu : u = some (.int .i64 hi) ∨ (u = none ∧ hi = n)) (h1 : lo ≤ hi) (h2 : hi ≤ n) :
   ∃ ao' cap', (∀ w', (Instr.sliceAt t (.slice ao n cap) l u none).run P w' = .ok (.slice ao' (hi - lo) cap') w') ∧ Sl w sz (.slice ao' (hi - lo) cap') (hi - lo) ((xs.drop (lo * sz)).take ((hi - lo) * sz)) ∧ (∀ b, (Value.slice ao' (hi - lo) cap').ownBlock = some b → (Value.slice ao n cap).ownBlock = some b) := by
 obtain ⟨hlx, ao0, cap0, hv, h3, h4, h5, h6⟩ := h
 simp only [Value.slice.injEq] at hv
 obtain ⟨rfl, _, rfl⟩ := hv
 obtain ⟨i, hi', hsz⟩ : ∃ i, P.info? e = some i ∧ i.size = sz := by
   cases hq : P.info? e with
   | none => simp [hq] at hs
   | some i => exact ⟨i, rfl, by simpa [hq] using hs⟩
 refine ⟨if cap = lo then ao else ao.map (·.add (lo * sz)), cap - lo, ?_, ⟨?_, ?_⟩, ?_⟩
 · intro w'
   have a1 : ¬ ((cap : Int) < (hi : Int)) := by omega
   have a2 : ¬ ((hi : Int) < (lo : Int)) := by omega
   have a3 : (0 : Int) ≤ (hi : Int) := by omega
   have a4 : (0 : Int) ≤ (lo : Int) := by omega
   have a5 : (hi : Int) ≤ (cap : Int) := by omega
   have a6 : (lo : Int) ≤ (hi : Int) := by omega
   rcases hl with rfl | ⟨rfl, rfl⟩ <;> rcases hu with rfl | ⟨rfl, rfl⟩ <;> simp [Instr.sliceAt, Instr.slice, Instr.sliceBounds, Instr.sliceBound, run_underlying ht, sizeOf, typeInfo, hi', hsz, asIntOf, h1, h2, show hi ≤ cap by omega]
 · rw [List.length_take, List.length_drop, hlx, ← Nat.sub_mul]
   apply Nat.min_eq_left
   exact Nat.mul_le_mul_right _ (by omega)
 · refine ⟨_, _, rfl, by omega, by omega, fun h => ?_, fun a ha => ?_⟩
   · split at h
     · have := h5 h; omega
     · cases ao with
       | none => have := h5 rfl; omega
       | some b => cases h
   · split at ha
     · rename_i hcl
       subst ha
       refine ⟨(h6 a rfl).1, fun j v hj => ?_⟩
       have : hi - lo = 0 := by omega
       rw [this, Nat.zero_mul, List.take_zero] at hj
       cases hj
     · cases ao with
       | none => cases ha
       | some b =>
         obtain ⟨q1, q2⟩ := h6 b rfl
         obtain rfl := Option.some.inj ha
         have hadd : (b.add (lo * sz)).spot = none ∧ (b.add (lo * sz)).block = b.block ∧ (b.add (lo * sz)).off = b.off + lo * sz := by
           unfold Addr.add
           split
           · rename_i h0; rw [h0]; exact ⟨q1, rfl, rfl⟩
           · exact ⟨rfl, rfl, rfl⟩
         refine ⟨hadd.1, fun j v hj => ?_⟩
         have hjl := (List.getElem?_eq_some_iff.1 hj).1
         rw [List.length_take] at hjl
         rw [hadd.2.1, hadd.2.2, Nat.add_assoc]
         refine q2 (lo * sz + j) v ?_
         rw [← hj, List.getElem?_take, if_pos (by omega), List.getElem?_drop]
 · intro b hb
   cases ao with
   | none =>
     simp only [Option.map_none, ite_self] at hb
     simp [Value.ownBlock] at hb
   | some a =>
     obtain ⟨q1, q2⟩ := h6 a rfl
     have hadd : (a.add (lo * sz)).block = a.block := by
       unfold Addr.add
       split <;> rfl
     split at hb
     · simpa [Value.ownBlock] using hb
     · simpa [Value.ownBlock, hadd] using hb
theorem wpList_sliceR {P : Program} {w : World} {ops : Array Oper} {rest : List Oper} {o : Oper} {a : Act} {Q : Exit → Act → World → Prop} (hgd : o.guard = none) (t : TypeId) (x : Operand) (lo hi : Option Operand)
   (ho : o.op = .slice t x lo hi none) (vx : Value) (hx : a.eval x = vx) (l u : Option Value) (hl : lo.map a.eval = l) (hu : hi.map a.eval = u) {v : Value}
   (hr : (Instr.sliceAt t vx l u none).run P w = .ok v w) (h : wpList P ops Q rest (a.put o.dst v) w) : wpList P ops Q (o :: rest) a w := by
 refine wpList_plain hgd fun K hK => ?_
 unfold Oper.wp execOp
 simp only [ho, Sem.run_bind, Sem.run_pure, Result.andThen_ok, hx, hl, hu, Option.map_none, hr]
 exact hK _ _ h
theorem rcount_walk {L : Nat} (R : Nat) (s : St) (most : Int) (w : World) (h : RSt 33 L w R s) :
   Calls Try.prog 156 #[.pointer (some ⟨R, 0, none⟩), .int .i64 most] w (RdPost 33 L w R (pIntIn 0 most) s repInt) := by
 go_enter Try.func156, Try.ntmps156
 go_wp2_with fail
 refine (rint_walk R s _ h).mono ?_
 rintro e w1 ⟨v, n, s1, rfl, ⟨rfl, hn⟩, hg, hst, hrel⟩
 obtain ⟨r1, r2, r3⟩ := hrel.inIn (a := 0) (b := most)
 have HG := hid hg
 have HST := hid hst
 cases s1 with
 | error er =>
   obtain ⟨v3, l3, ⟨he, he2, hrow⟩, _⟩ := hst
   obtain ⟨c0, c1, f0, f1⟩ := row2 hrow
   have be : ((er : Int) == 0) = false := beqF (by omega)
   have H3 := hid (r3 er rfl)
   have hne : (er : Int) ≠ 0 := by omega
   clear r1 r2 r3 hrel hg he he2
   by_cases hb : n < 0 ∨ most < n
   · have d1 : (decide (n < 0) = true) ∨ (decide (n < 0) = false ∧ decide (most < n) = true) := by
       rcases hb with hb | hb
       · exact .inl (decide_eq_true hb)
       · by_cases h0 : n < 0
         · exact .inl (decide_eq_true h0)
         · exact .inr ⟨decide_eq_false h0, decide_eq_true hb⟩
     clear hb
     rcases d1 with d1 | ⟨d1, d2⟩
     all_goals
       go_wp2_with (go_at_call 92; refine (rfail_walk _ _ _ _ _ hrow).mono ?_; rintro e w' ⟨rfl, rfl⟩)
       all_goals go_ret
       all_goals first | (exfalso; omega) | exact ⟨_, 0, _, rfl, ⟨rfl, by decide, by decide⟩, HG.out, HST.out, H3.out 0⟩
   · have d1 : decide (n < 0) = false := decide_eq_false (by omega)
     have d2 : decide (most < n) = false := decide_eq_false (by omega)
     clear hb
     go_wp2
     go_ret
     exact ⟨_, n, _, rfl, ⟨rfl, hn⟩, HG.out, HST.out, H3.out n⟩
 | ok l =>
   obtain ⟨v3, l3, ⟨rfl, hrow⟩, _⟩ := hst
   obtain ⟨c0, c1, f0, f1⟩ := row2 hrow
   have H1 := hid (r1 l rfl)
   have H2 := hid (r2 l rfl)
   clear r1 r2 r3 hrel hg
   by_cases hb : n < 0 ∨ most < n
   · have fin : RdPost 33 L w R (pIntIn 0 most) s repInt (.returned (.int .i64 0)) (w1.setCell ⟨R, 1, none⟩ (.int .i64 1)) :=
       ⟨_, 0, .error 1, rfl, ⟨rfl, by decide, by decide⟩, grown_trans HG.out (grown_setCell w1 ⟨R, 1, none⟩ _), HST.out.fail' 1 (by decide) (by decide), H2.out hb 0⟩
     have FIN := hid fin
     clear fin
     have d1 : (decide (n < 0) = true) ∨ (decide (n < 0) = false ∧ decide (most < n) = true) := by
       rcases hb with hb | hb
       · exact .inl (decide_eq_true hb)
       · by_cases h0 : n < 0
         · exact .inl (decide_eq_true h0)
         · exact .inr ⟨decide_eq_false h0, decide_eq_true hb⟩
     clear hb
     rcases d1 with d1 | ⟨d1, d2⟩
     all_goals
       go_wp2_with (go_at_call 92; refine (rfail_walk _ _ _ _ _ hrow).mono ?_; rintro e w' ⟨rfl, rfl⟩)
       go_ret
       exact FIN.out
   · have d1 : decide (n < 0) = false := decide_eq_false (by omega)
     have d2 : decide (most < n) = false := decide_eq_false (by omega)
     have H4 := hid (H1.out (by omega))
     clear hb
     go_wp2
     go_ret
     exact ⟨_, n, _, rfl, ⟨rfl, hn⟩, HG.out, HST.out, H4.out⟩
end Go.Proofs.Ytkeiffccllfkpaa
/- The reference's reader: bytes, texts and values from arbitrary bytes. -/
namespace Go.Proofs.Ytkeiffccllfkpaa
open Go.RowKit
set_option linter.unusedSimpArgs false
set_option linter.unusedVariables false
attribute [local go_sem] Oper.semAt_some
def repBytesN (L0 n : Nat) (w : World) (v : Value) (x : List Nat) : Prop := repBytes w v x ∧ x.length ≤ n ∧ ∀ k, v.ownBlock = some k → L0 ≤ k
theorem no_block (L0 : Nat) : ∀ k, (Value.slice none 0 0).ownBlock = some k → L0 ≤ k := fun k hk => by simp [Value.ownBlock] at hk
theorem rtake_walk {L : Nat} (R : Nat) (s : St) (n : Int) (w : World) (h : RSt 33 L w R s) (hn : -9223372036854775808 ≤ n ∧ n ≤ 9223372036854775807) (hs : ∀ l, s = .ok l → 0 ≤ n) :
   Calls Try.prog 192 #[.pointer (some ⟨R, 0, none⟩), .int .i64 n] w (RdPost 33 L w R (pBytes n.toNat) s (repBytesN w.heap.size n.toNat)) := by
 have HST := hid h
 cases s with
 | error er =>
   obtain ⟨v3, l3, ⟨he, he2, hrow⟩, _⟩ := h
   obtain ⟨c0, c1, f0, f1⟩ := row2 hrow
   have be : ((er : Int) == 0) = false := beqF (by omega)
   have be' : ((er : Int) != 0) = true := by simp; omega
   clear hrow he he2 hs hn
   go_enter Try.func192, Try.ntmps192
   go_wp2
   go_ret
   exact ⟨_, [], _, rfl, ⟨⟨Sl.nil _ _, by simp⟩, Nat.zero_le _, no_block _⟩, World.grownBy.refl _ _, HST.out, rfl⟩
 | ok l =>
   obtain ⟨v3, l3, ⟨rfl, hrow⟩, hsl, hvb, hb, hl⟩ := h
   obtain ⟨c0, c1, f0, f1⟩ := row2 hrow
   obtain ⟨k, rfl⟩ := Int.eq_ofNat_of_zero_le (hs _ rfl)
   clear hs
   rw [Int.toNat_natCast]
   obtain ⟨ao, cap, rfl, hnc, hcm⟩ := hsl.shape
   by_cases hk : l.length < k
   · have d1 : decide (l.length < k) = true := decide_eq_true hk
     have HE := hid hk
     clear hk
     go_enter Try.func192, Try.ntmps192
     go_wp2_with (go_at_call 92; refine (rfail_walk _ _ _ _ _ hrow).mono ?_; rintro e w' ⟨rfl, rfl⟩)
     go_ret
     exact ⟨_, [], .error 100, rfl, ⟨⟨Sl.nil _ _, by simp⟩, Nat.zero_le _, no_block _⟩, grown_setCell w ⟨R, 1, none⟩ _, HST.out.fail' 100 (by decide) (by decide), Rel.of_err (by unfold pBytes; rw [if_neg (by have := HE.out; omega)])⟩
   · have d1 : decide (l.length < k) = false := decide_eq_false hk
     have hkl : k ≤ l.length := by omega
     clear hk
     have hR : R < w.heap.size := (Array.getElem?_eq_some_iff.1 hrow).1
     have ga := World.grownBy_alloc w (.cells #[] 5) none
     have hrA := row_of ga hrow (by simp)
     obtain ⟨a0, a1, b0, b1⟩ := row2 hrA
     obtain ⟨ao8, cp8, r8, s8, q8⟩ := run_slice_sl Try.underlying22 (by kernel_rfl) (hsl.kn ga) 0 k none (some (.int .i64 k)) (.inr ⟨rfl, rfl⟩) (.inl rfl) (by omega) (by omega)
     obtain ⟨ao9, cp9, r9, s9, q9⟩ := run_slice_sl Try.underlying22 (by kernel_rfl) hsl k l.length (some (.int .i64 k)) none (.inl rfl) (.inr ⟨rfl, rfl⟩) hkl (Nat.le_refl _)
     rw [Nat.zero_mul, Nat.mul_one, List.drop_zero, Nat.sub_zero, show (bv l).take k = bv (l.take k) by unfold bv; rw [List.map_take]] at s8
     rw [Nat.sub_zero] at r8
     rw [Nat.mul_one, Nat.mul_one, show ((bv l).drop k).take (l.length - k) = bv (l.drop k) by rw [List.take_of_length_le (by rw [List.length_drop, bv_length]; omega)]; unfold bv; rw [List.map_drop]] at s9
     have S8 := hid s8
     have R8 := hid r8
     have S9 := hid s9
     have R9 := hid r9
     have Q9 := hid q9
     have GA := hid ga
     have HRA := hid hrA
     clear s8 r8 s9 r9 q8 q9 ga hrA
     go_enter Try.func192, Try.ntmps192
     go_wp2_with (first
       | (refine wpList_sliceR rfl 22 (.tmp 31) none (some (.tmp 32)) rfl _ rfl none (some (.int .i64 k)) rfl rfl (R8.out _) ?_)
       | (refine wpList_app bytesT rfl (.tmp 27) (.tmp 33) rfl _ 0 [] rfl (Own.empty w) _ k (bv (l.take k)) rfl S8.out (bv_cells _) (by omega) ?_; intro v3 w3 o3 s3; have hr3 := row_of s3.1 HRA.out (fun e => absurd (Option.some.inj (show some R = some w.heap.size from e)) (by omega)); obtain ⟨p0, p1, p2, p3⟩ := row2 hr3; have O3 := hid o3; have S3 := hid s3; have HR3 := hid hr3; clear o3 s3 hr3)
       | (refine wpList_sliceR rfl 22 (.tmp 39) (some (.tmp 40)) none rfl _ rfl (some (.int .i64 k)) none rfl rfl (R9.out _) ?_)
       | fail)
     go_ret
     have hb2 : ∀ b ∈ l.drop k, b < 256 := fun b hb' => hb b (List.mem_of_mem_drop hb')
     have hb1 : ∀ b ∈ l.take k, b < 256 := fun b hb' => hb b (List.mem_of_mem_take hb')
     have hlt : (l.take k).length = k := by rw [List.length_take]; omega
     have g3 : w.grownBy w3 none := grown_newR GA.out S3.out.1 (Nat.le_refl _)
     have gs := grown_setCell w3 ⟨R, 0, none⟩ (.slice ao9 (l.length - k) cp9)
     have hne : v3.ownBlock ≠ some R := fun e => by
       rcases S3.out.2 R e with h | h
       · have h : some w.heap.size = some R := h
         have := Option.some.inj h
         omega
       · have := h
         simp at this
         omega
     have hlow : ∀ k, v3.ownBlock = some k → w.heap.size ≤ k := fun k e => by
       rcases S3.out.2 k e with h | h
       · have h : some w.heap.size = some k := h
         have := Option.some.inj h
         omega
       · have := h
         simp at this
         omega
     have hs3 := Sl.of_own O3.out
     rw [Nat.zero_add, List.nil_append] at hs3
     refine ⟨_, l.take k, .ok (l.drop k), rfl, ⟨⟨by rw [hlt]; exact hs3.kept gs (.inr hne), hb1, by omega⟩, by omega, hlow⟩, grown_trans (grown_0 g3) gs, RSt.next HR3.out (by rw [List.length_drop]; exact S9.out.kn g3) ⟨fun b hb' => hvb.1 b (Q9.out b hb'), hvb.2⟩ hb2 (by rw [List.length_drop]; omega), Rel.of_ok (by unfold pBytes; rw [if_pos hkl])⟩
theorem Rel.dead' {α : Type} {p : Parser α} (e : Nat) (x : α) : Rel p (.error e) x (.error e) := rfl
theorem rtext_read {L : Nat} (R : Nat) (s : St) (most : Int) (w : World) (h : RSt 33 L w R s) (hm : most ≤ 1000000) :
   Calls Try.prog 157 #[.pointer (some ⟨R, 0, none⟩), .int .i64 most] w (RdPost 33 L w R (pText most) s repText) := by
 go_enter Try.func157, Try.ntmps157
 go_wp2_with fail
 refine (rint_walk R s _ h).mono ?_
 rintro e w1 ⟨v, n, s1, rfl, ⟨rfl, hn⟩, hg, hst, hrel⟩
 obtain ⟨r1, r2, r3⟩ := hrel.inIn (a := 0) (b := most)
 have HG := hid hg
 have HST := hid hst
 by_cases hb : n < 0 ∨ most < n
 · have fin : ∀ w', (∀ er, s1 = .error er → w' = w1) → (∀ l, s1 = .ok l → w' = w1.setCell ⟨R, 1, none⟩ (.int .i64 1)) → RdPost 33 L w R (pText most) s repText (.returned (.string ⟨#[]⟩)) w' := by
     intro w' he ho
     cases s1 with
     | error er =>
       obtain rfl := he er rfl
       exact ⟨_, ⟨#[]⟩, _, rfl, ⟨rfl, by decide⟩, HG.out, HST.out, (r3 er rfl 0).bind (Rel.dead' _ _)⟩
     | ok l =>
       obtain rfl := ho l rfl
       exact ⟨_, ⟨#[]⟩, .error 1, rfl, ⟨rfl, by decide⟩, grown_trans HG.out (grown_setCell w1 ⟨R, 1, none⟩ _), HST.out.fail' 1 (by decide) (by decide), (r2 l rfl hb 0).bind (Rel.dead' _ _)⟩
   have FIN := hid fin
   clear fin r1 r2 r3 hrel hg
   have d1 : (decide (n < 0) = true) ∨ (decide (n < 0) = false ∧ decide (most < n) = true) := by
     rcases hb with hb | hb
     · exact .inl (decide_eq_true hb)
     · by_cases h0 : n < 0
       · exact .inl (decide_eq_true h0)
       · exact .inr ⟨decide_eq_false h0, decide_eq_true hb⟩
   clear hb
   obtain ⟨v3, er, hrow, hcase⟩ : ∃ v3 er, w1.heap[R]? = some (.cells #[v3, .int .i64 er] 33 (0, 0)) ∧ ((er = 0 ∧ ∃ l, s1 = .ok l) ∨ (er ≠ 0 ∧ ∃ x, s1 = .error x)) := by
     obtain ⟨v3, l3, hc, _⟩ := hst
     cases s1 with
     | error er => exact ⟨v3, er, hc.2.2, .inr ⟨by have := hc.1; omega, _, rfl⟩⟩
     | ok l => exact ⟨v3, 0, hc.2, .inl ⟨rfl, _, rfl⟩⟩
   have HC := hid hcase
   clear hcase hst
   rcases d1 with d1 | ⟨d1, d2⟩
   all_goals
     go_wp2_with (go_at_call 92; refine (rfail_walk _ _ _ _ _ hrow).mono ?_; rintro e w' ⟨rfl, hw'⟩; have HW := hid hw'; clear hw')
     go_ret
     refine FIN.out _ (fun x hx => ?_) (fun l hl => ?_)
     · rcases HC.out with ⟨_, l, hl⟩ | ⟨h0, _⟩
       · rw [hx] at hl; cases hl
       · rw [HW.out, if_neg h0]
     · rcases HC.out with ⟨h0, _⟩ | ⟨_, x, hx⟩
       · rw [HW.out, if_pos h0]
       · rw [hx] at hl; cases hl
 · have d1 : decide (n < 0) = false := decide_eq_false (by omega)
   have d2 : decide (most < n) = false := decide_eq_false (by omega)
   have hrel1 : Rel (pIntIn 0 most) s n s1 := by
     cases s1 with
     | error er => exact r3 er rfl n
     | ok l => exact r1 l rfl (by omega)
   have HR := hid hrel1
   have hpos : ∀ l, s1 = .ok l → 0 ≤ n := fun l hl => by omega
   clear r1 r2 r3 hrel hg hb hrel1
   go_wp2_with fail
   refine (rtake_walk R s1 n _ hst hn hpos).mono ?_
   rintro e w2 ⟨v2, x, s2, rfl, ⟨⟨hx, hxb, hxl⟩, _⟩, hg2, hst2, hrel2⟩
   have hc := run_conv (P := Try.prog) 22 9 5 Try.underlying22 Try.underlying5 Try.underlying9 hx
   have H2 := hid hrel2
   have HG2 := hid hg2
   have HST2 := hid hst2
   have HX := hid hx
   clear hrel2 hg2 hst2 hx hpos hst
   go_wp2
   go_ret
   exact ⟨_, bs x, s2, rfl, ⟨rfl, by rw [bs_size]; exact hxl⟩, grown_trans HG.out HG2.out, HST2.out, HR.out.bind (H2.out.bind (Rel.pure _ _))⟩
end Go.Proofs.Ytkeiffccllfkpaa
