/- The exported readers. (merged by merge.py) -/
import Derived.Test.YtkeiffccllfkpaaM6
import Derived.Test.YtkeiffccllfkpaaM4
import Derived.Test.YtkeiffccllfkpaaM5
namespace Go.Proofs.Ytkeiffccllfkpaa

/-! ## Rw1 -/
section
open Go.RowKit

theorem results_ctt {P : Program} {fn : Func} {p q r : Tmp} {T : TypeId} (h : fn.results = #[.cell p T, .tmp q, .tmp r]) {tmps : Array Value} {w : World} {b : Nat} {cs : List Value} {v : Value} {fr : Nat × Nat} {u : TypeId}
    (hp : tmps.getD p undef = ptr b) (t : TY P T cs v) (hb : w.heap[b]? = some (.cells cs.toArray u fr)) :
    (results fn tmps).run P w = .ok (.tuple #[v, tmps.getD q undef, tmps.getD r undef]) w := by
  have e0 := t.load w b 0 (rangeAt_row hb)
  have hp' : tmps[p]?.getD undef = .pointer (some ⟨b, 0, none⟩) := by simpa [ptr] using hp
  simp [results, h, hp', asAddr, e0]
theorem ReadPost.errS {α : Type} {p : Parser α} {xs : List Nat} {zero : Value} {rep : Nat → World → Value → α → Prop} {w w' : World} {o : Obj} {cs : List Value} {n : Nat} (hp : p xs = .error n) (hg : (w.alloc o).grownBy w' none) (hn : n ≠ 0) :
    ReadPost p xs zero rep w (.returned (.tuple #[zero, nilS, .int .i64 n])) (w'.setCells w.heap.size 0 cs) :=
  ReadPost.mkErr (grown_newR (grown_trans (World.grownBy_alloc w o none) hg) (setCells_grown w.heap.size cs 0 w') (Nat.le_refl _)) hp rfl hn
theorem ReadPost.okS {α : Type} {p : Parser α} {xs r : List Nat} {x : α} {zero : Value} {rep : Nat → World → Value → α → Prop} {w w' : World} {o : Obj} {cs : List Value} {v rv : Value} (hp : p xs = .ok (x, r)) (hg : (w.alloc o).grownBy w' none)
    (hrep : rep (w.alloc o).heap.size w' v x) (hsl : Sl w' 1 rv r.length (bv r)) (hrv : ∀ k, rv.ownBlock = some k → (w.alloc o).heap.size ≤ k)
    (hmono : ∀ (L : Nat) (w w' : World) (v : Value) (x : α), rep L w v x → w.heap.size ≤ w'.heap.size → (∀ k, L ≤ k → k < w.heap.size → w'.heap[k]? = w.heap[k]?) → ∀ L', L' ≤ L → rep L' w' v x) :
    ReadPost p xs zero rep w (.returned (.tuple #[v, rv, .int .i64 0])) (w'.setCells w.heap.size 0 cs) := by
  have gs := setCells_grown w.heap.size cs 0 w'
  have hsz : (w.alloc o).heap.size = w.heap.size + 1 := by simp
  unfold ReadPost
  rw [hp]
  refine ⟨grown_newR (grown_trans (World.grownBy_alloc w o none) hg) gs (Nat.le_refl _), v, rv, rfl, hmono _ _ _ _ _ hrep gs.size (fun k h1 h2 => gs.block k h2 (by simp; omega)) _ (by omega), hsl.kept gs (.inr fun e => by have := hrv _ e; omega), fun k hk => by have := hrv k hk; omega⟩
set_option maxRecDepth 100000 in
theorem rdxVersions_walk (v : Value) (xs : List Nat) (w : World) (hv : Sl w 1 v xs.length (bv xs)) (hl : xs.length ≤ 1099511627776) (hb : ∀ b ∈ xs, b < 256) (hvb : Lo v w.heap.size) :
    Calls Try.prog 30 #[v] w (ReadPost pVers xs (.slice none 0 0) repVers w) := by
  obtain ⟨ao, cap, rfl, hnc, hcm⟩ := hv.shape
  have HV := hid hv
  have HB := hid hb
  have HVB := hid hvb
  clear hv hb hvb
  go_enter Try.func30, Try.ntmps30
  go_wp2_with fail
  refine (readVers_walk pVers repVers _ xs _ HV.out hl HB.out HVB.out (fun w R L s hst => versions_walk R s w hst) ?_ repVers_mono).mono ?_
  · rintro L w v x ⟨h, _, _⟩
    obtain ⟨ao, cap, rfl, _⟩ := h.shape
    exact ⟨_, TY.one' Try.underlying42 rfl (by kernel_rfl) rfl, rfl⟩
  intro e w' h
  have H := hid h
  unfold ReadPost at h
  obtain ⟨hg, h⟩ := h
  cases hp : pVers xs with
  | error n =>
    rw [hp] at h
    obtain ⟨rfl, hn⟩ := h
    clear hp hg hn
    go_wp2
    go_ret3
    exact H.out
  | ok y =>
    obtain ⟨x, r⟩ := y
    rw [hp] at h
    obtain ⟨v, rv, rfl, h⟩ := h
    clear hp hg h
    go_wp2
    go_ret3
    exact H.out
set_option maxRecDepth 100000 in
theorem rdxSources_walk (v : Value) (xs : List Nat) (w : World) (hv : Sl w 1 v xs.length (bv xs)) (hl : xs.length ≤ 1099511627776) (hb : ∀ b ∈ xs, b < 256) (hvb : Lo v w.heap.size) :
    Calls Try.prog 32 #[v] w (ReadPost pSrcs xs (.slice none 0 0) repSrcs w) := by
  obtain ⟨ao, cap, rfl, hnc, hcm⟩ := hv.shape
  have HV := hid hv
  have HB := hid hb
  have HVB := hid hvb
  clear hv hb hvb
  go_enter Try.func32, Try.ntmps32
  go_wp2_with fail
  refine (readSrcs_walk pSrcs repSrcs _ xs _ HV.out hl HB.out HVB.out (fun w R L s hst => sources_walk R s w hst) ?_ repSrcs_mono).mono ?_
  · rintro L w v x ⟨h, _, _⟩
    obtain ⟨ao, cap, rfl, _⟩ := h.shape
    exact ⟨_, TY.one' Try.underlying43 rfl (by kernel_rfl) rfl, rfl⟩
  intro e w' h
  have H := hid h
  unfold ReadPost at h
  obtain ⟨hg, h⟩ := h
  cases hp : pSrcs xs with
  | error n =>
    rw [hp] at h
    obtain ⟨rfl, hn⟩ := h
    clear hp hg hn
    go_wp2
    go_ret3
    exact H.out
  | ok y =>
    obtain ⟨x, r⟩ := y
    rw [hp] at h
    obtain ⟨v, rv, rfl, h⟩ := h
    clear hp hg h
    go_wp2
    go_ret3
    exact H.out
set_option maxRecDepth 100000 in
theorem rdxRow_walk (v : Value) (xs : List Nat) (w : World) (hv : Sl w 1 v xs.length (bv xs)) (hl : xs.length ≤ 1099511627776) (hb : ∀ b ∈ xs, b < 256) (hvb : Lo v w.heap.size) :
    Calls Try.prog 39 #[v] w (ReadPost pRow xs (.slice none 0 0) repRow w) := by
  obtain ⟨ao, cap, rfl, hnc, hcm⟩ := hv.shape
  have HV := hid hv
  have HB := hid hb
  have HVB := hid hvb
  clear hv hb hvb
  go_enter Try.func39, Try.ntmps39
  go_wp2_with fail
  refine (readRow_walk pRow repRow _ xs _ HV.out hl HB.out HVB.out (fun w R L s hst => row_walk R s w hst) ?_ repRow_mono).mono ?_
  · rintro L w v x ⟨h, _, _⟩
    obtain ⟨ao, cap, rfl, _⟩ := h.shape
    exact ⟨_, TY.one' Try.underlying60 rfl (by kernel_rfl) rfl, rfl⟩
  intro e w' h
  have H := hid h
  unfold ReadPost at h
  obtain ⟨hg, h⟩ := h
  cases hp : pRow xs with
  | error n =>
    rw [hp] at h
    obtain ⟨rfl, hn⟩ := h
    clear hp hg hn
    go_wp2
    go_ret3
    exact H.out
  | ok y =>
    obtain ⟨x, r⟩ := y
    rw [hp] at h
    obtain ⟨v, rv, rfl, h⟩ := h
    clear hp hg h
    go_wp2
    go_ret3
    exact H.out
set_option maxRecDepth 100000 in
theorem rdxBag_walk (v : Value) (xs : List Nat) (w : World) (hv : Sl w 1 v xs.length (bv xs)) (hl : xs.length ≤ 1099511627776) (hb : ∀ b ∈ xs, b < 256) (hvb : Lo v w.heap.size) :
    Calls Try.prog 48 #[v] w (ReadPost pBag xs (.slice none 0 0) repBag w) := by
  obtain ⟨ao, cap, rfl, hnc, hcm⟩ := hv.shape
  have HV := hid hv
  have HB := hid hb
  have HVB := hid hvb
  clear hv hb hvb
  go_enter Try.func48, Try.ntmps48
  go_wp2_with fail
  refine (readBag_walk pBag repBag _ xs _ HV.out hl HB.out HVB.out (fun w R L s hst => bag_walk R s w hst) ?_ repBag_mono).mono ?_
  · rintro L w v x ⟨_, _, h, _, _⟩
    obtain ⟨ao, cap, rfl, _⟩ := h.shape
    exact ⟨_, TY.one' Try.underlying76 rfl (by kernel_rfl) rfl, rfl⟩
  intro e w' h
  have H := hid h
  unfold ReadPost at h
  obtain ⟨hg, h⟩ := h
  cases hp : pBag xs with
  | error n =>
    rw [hp] at h
    obtain ⟨rfl, hn⟩ := h
    clear hp hg hn
    go_wp2
    go_ret3
    exact H.out
  | ok y =>
    obtain ⟨x, r⟩ := y
    rw [hp] at h
    obtain ⟨v, rv, rfl, h⟩ := h
    clear hp hg h
    go_wp2
    go_ret3
    exact H.out
set_option maxRecDepth 100000 in
set_option maxHeartbeats 1000000 in
theorem rdxDigest_walk (v : Value) (xs : List Nat) (w : World) (hv : Sl w 1 v xs.length (bv xs)) (hl : xs.length ≤ 1099511627776) (hb : ∀ b ∈ xs, b < 256) (hvb : Lo v w.heap.size) :
    Calls Try.prog 31 #[v] w (ReadPost (pBytes 32) xs (.agg #[(Value.int .u8 0), (Value.int .u8 0), (Value.int .u8 0), (Value.int .u8 0), (Value.int .u8 0), (Value.int .u8 0), (Value.int .u8 0), (Value.int .u8 0), (Value.int .u8 0), (Value.int .u8 0), (Value.int .u8 0), (Value.int .u8 0), (Value.int .u8 0), (Value.int .u8 0), (Value.int .u8 0), (Value.int .u8 0), (Value.int .u8 0), (Value.int .u8 0), (Value.int .u8 0), (Value.int .u8 0), (Value.int .u8 0), (Value.int .u8 0), (Value.int .u8 0), (Value.int .u8 0), (Value.int .u8 0), (Value.int .u8 0), (Value.int .u8 0), (Value.int .u8 0), (Value.int .u8 0), (Value.int .u8 0), (Value.int .u8 0), (Value.int .u8 0)]) (fun _ => repDig) w) := by
  obtain ⟨ao, cap, rfl, hnc, hcm⟩ := hv.shape
  have hTY : ∀ (L : Nat) (w : World) (v : Value) (x : _), (fun _ => repDig) L w v x → ∃ cs, TY Try.prog 45 cs v ∧ cs.length = 32 := by
    rintro L w v x ⟨rfl, h, _⟩
    exact ⟨_, tyDig x h, by rw [bv_length, h]⟩
  have hga := World.grownBy_alloc w (.cells (List.toArray [(Value.int .u8 0), (Value.int .u8 0), (Value.int .u8 0), (Value.int .u8 0), (Value.int .u8 0), (Value.int .u8 0), (Value.int .u8 0), (Value.int .u8 0), (Value.int .u8 0), (Value.int .u8 0), (Value.int .u8 0), (Value.int .u8 0), (Value.int .u8 0), (Value.int .u8 0), (Value.int .u8 0), (Value.int .u8 0), (Value.int .u8 0), (Value.int .u8 0), (Value.int .u8 0), (Value.int .u8 0), (Value.int .u8 0), (Value.int .u8 0), (Value.int .u8 0), (Value.int .u8 0), (Value.int .u8 0), (Value.int .u8 0), (Value.int .u8 0), (Value.int .u8 0), (Value.int .u8 0), (Value.int .u8 0), (Value.int .u8 0), (Value.int .u8 0)]) 45) none
  have HV := hid (hv.kept hga (by cases (Value.slice ao xs.length cap).ownBlock <;> simp))
  have HB := hid hb
  have HVB := hid (hvb.mono (R' := (w.alloc (.cells (List.toArray [(Value.int .u8 0), (Value.int .u8 0), (Value.int .u8 0), (Value.int .u8 0), (Value.int .u8 0), (Value.int .u8 0), (Value.int .u8 0), (Value.int .u8 0), (Value.int .u8 0), (Value.int .u8 0), (Value.int .u8 0), (Value.int .u8 0), (Value.int .u8 0), (Value.int .u8 0), (Value.int .u8 0), (Value.int .u8 0), (Value.int .u8 0), (Value.int .u8 0), (Value.int .u8 0), (Value.int .u8 0), (Value.int .u8 0), (Value.int .u8 0), (Value.int .u8 0), (Value.int .u8 0), (Value.int .u8 0), (Value.int .u8 0), (Value.int .u8 0), (Value.int .u8 0), (Value.int .u8 0), (Value.int .u8 0), (Value.int .u8 0), (Value.int .u8 0)]) 45)).heap.size) (by simp))
  clear hv hb hvb hga
  go_enter Try.func31, Try.ntmps31
  go_wp2_with fail
  refine (readDig_walk (pBytes 32) ((fun _ => repDig)) _ xs _ HV.out hl HB.out HVB.out (fun w R L s hst => digest_walk R s w hst) hTY (fun _ _ _ _ _ h _ _ _ _ => h)).mono ?_
  intro e w' h
  have hz := row_of h.1 (heap_at (w := w) (o := .cells (List.toArray [(Value.int .u8 0), (Value.int .u8 0), (Value.int .u8 0), (Value.int .u8 0), (Value.int .u8 0), (Value.int .u8 0), (Value.int .u8 0), (Value.int .u8 0), (Value.int .u8 0), (Value.int .u8 0), (Value.int .u8 0), (Value.int .u8 0), (Value.int .u8 0), (Value.int .u8 0), (Value.int .u8 0), (Value.int .u8 0), (Value.int .u8 0), (Value.int .u8 0), (Value.int .u8 0), (Value.int .u8 0), (Value.int .u8 0), (Value.int .u8 0), (Value.int .u8 0), (Value.int .u8 0), (Value.int .u8 0), (Value.int .u8 0), (Value.int .u8 0), (Value.int .u8 0), (Value.int .u8 0), (Value.int .u8 0), (Value.int .u8 0), (Value.int .u8 0)]) 45) rfl) (by simp)
  have HZ := hid hz
  have H := hid h
  unfold ReadPost at h
  obtain ⟨hg, h⟩ := h
  clear hz
  cases hp : (pBytes 32) xs with
  | error n =>
    rw [hp] at h
    obtain ⟨rfl, hn⟩ := h
    have HP := hid hp
    have HG := hid hg
    clear hp hg
    generalize hV : (Value.agg #[(Value.int .u8 0), (Value.int .u8 0), (Value.int .u8 0), (Value.int .u8 0), (Value.int .u8 0), (Value.int .u8 0), (Value.int .u8 0), (Value.int .u8 0), (Value.int .u8 0), (Value.int .u8 0), (Value.int .u8 0), (Value.int .u8 0), (Value.int .u8 0), (Value.int .u8 0), (Value.int .u8 0), (Value.int .u8 0), (Value.int .u8 0), (Value.int .u8 0), (Value.int .u8 0), (Value.int .u8 0), (Value.int .u8 0), (Value.int .u8 0), (Value.int .u8 0), (Value.int .u8 0), (Value.int .u8 0), (Value.int .u8 0), (Value.int .u8 0), (Value.int .u8 0), (Value.int .u8 0), (Value.int .u8 0), (Value.int .u8 0), (Value.int .u8 0)]) = V
    obtain ⟨cs, ht, hcl⟩ : ∃ cs, TY Try.prog 45 cs V ∧ cs.length = 32 := ⟨[(Value.int .u8 0), (Value.int .u8 0), (Value.int .u8 0), (Value.int .u8 0), (Value.int .u8 0), (Value.int .u8 0), (Value.int .u8 0), (Value.int .u8 0), (Value.int .u8 0), (Value.int .u8 0), (Value.int .u8 0), (Value.int .u8 0), (Value.int .u8 0), (Value.int .u8 0), (Value.int .u8 0), (Value.int .u8 0), (Value.int .u8 0), (Value.int .u8 0), (Value.int .u8 0), (Value.int .u8 0), (Value.int .u8 0), (Value.int .u8 0), (Value.int .u8 0), (Value.int .u8 0), (Value.int .u8 0), (Value.int .u8 0), (Value.int .u8 0), (Value.int .u8 0), (Value.int .u8 0), (Value.int .u8 0), (Value.int .u8 0), (Value.int .u8 0)], by rw [← hV]; exact ztyDig, rfl⟩
    have HT := hid ht
    have hcl' : (List.toArray [(Value.int .u8 0), (Value.int .u8 0), (Value.int .u8 0), (Value.int .u8 0), (Value.int .u8 0), (Value.int .u8 0), (Value.int .u8 0), (Value.int .u8 0), (Value.int .u8 0), (Value.int .u8 0), (Value.int .u8 0), (Value.int .u8 0), (Value.int .u8 0), (Value.int .u8 0), (Value.int .u8 0), (Value.int .u8 0), (Value.int .u8 0), (Value.int .u8 0), (Value.int .u8 0), (Value.int .u8 0), (Value.int .u8 0), (Value.int .u8 0), (Value.int .u8 0), (Value.int .u8 0), (Value.int .u8 0), (Value.int .u8 0), (Value.int .u8 0), (Value.int .u8 0), (Value.int .u8 0), (Value.int .u8 0), (Value.int .u8 0), (Value.int .u8 0)]).size = cs.length := by rw [hcl]; rfl
    have HVV := hid hV
    clear ht hV hTY
    go_wp2_with (first | (refine wpList_storeTY rfl 45 (.tmp 2) (.tmp 7) rfl rfl rfl HT.out HZ.out hcl' ?_) | fail)
    have hVV := HVV.out
    clear HVV
    subst hVV
    exact bodyPost_ret (results_ctt rfl rfl HT.out (HT.out.stores HZ.out hcl').2.2) rfl (ReadPost.errS HP.out HG.out hn)
  | ok y =>
    obtain ⟨x, r⟩ := y
    rw [hp] at h
    obtain ⟨V, rv, rfl, h1, h2, h3⟩ := h
    obtain ⟨cs, ht, hcl⟩ := hTY (w.alloc (.cells (List.toArray [(Value.int .u8 0), (Value.int .u8 0), (Value.int .u8 0), (Value.int .u8 0), (Value.int .u8 0), (Value.int .u8 0), (Value.int .u8 0), (Value.int .u8 0), (Value.int .u8 0), (Value.int .u8 0), (Value.int .u8 0), (Value.int .u8 0), (Value.int .u8 0), (Value.int .u8 0), (Value.int .u8 0), (Value.int .u8 0), (Value.int .u8 0), (Value.int .u8 0), (Value.int .u8 0), (Value.int .u8 0), (Value.int .u8 0), (Value.int .u8 0), (Value.int .u8 0), (Value.int .u8 0), (Value.int .u8 0), (Value.int .u8 0), (Value.int .u8 0), (Value.int .u8 0), (Value.int .u8 0), (Value.int .u8 0), (Value.int .u8 0), (Value.int .u8 0)]) 45)).heap.size _ _ _ h1
    have HT := hid ht
    clear hTY
    have HC := hid (And.intro h1 (And.intro h2 h3))
    have HP := hid hp
    have HG := hid hg
    clear hp hg h1 h2 h3 ht
    have hcl' : (List.toArray [(Value.int .u8 0), (Value.int .u8 0), (Value.int .u8 0), (Value.int .u8 0), (Value.int .u8 0), (Value.int .u8 0), (Value.int .u8 0), (Value.int .u8 0), (Value.int .u8 0), (Value.int .u8 0), (Value.int .u8 0), (Value.int .u8 0), (Value.int .u8 0), (Value.int .u8 0), (Value.int .u8 0), (Value.int .u8 0), (Value.int .u8 0), (Value.int .u8 0), (Value.int .u8 0), (Value.int .u8 0), (Value.int .u8 0), (Value.int .u8 0), (Value.int .u8 0), (Value.int .u8 0), (Value.int .u8 0), (Value.int .u8 0), (Value.int .u8 0), (Value.int .u8 0), (Value.int .u8 0), (Value.int .u8 0), (Value.int .u8 0), (Value.int .u8 0)]).size = cs.length := by rw [hcl]; rfl
    go_wp2_with (first | (refine wpList_storeTY rfl 45 (.tmp 2) (.tmp 7) rfl rfl rfl HT.out HZ.out hcl' ?_) | fail)
    exact bodyPost_ret (results_ctt rfl rfl HT.out (HT.out.stores HZ.out hcl').2.2) rfl (ReadPost.okS HP.out HG.out HC.out.1 HC.out.2.1 HC.out.2.2 (fun _ _ _ _ _ h _ _ _ _ => h))
end

/-! ## Rw2 -/
section
open Go.RowKit

set_option maxRecDepth 100000 in
set_option maxHeartbeats 1000000 in
theorem rdxValue_walk (v : Value) (xs : List Nat) (w : World) (hv : Sl w 1 v xs.length (bv xs)) (hl : xs.length ≤ 1099511627776) (hb : ∀ b ∈ xs, b < 256) (hvb : Lo v w.heap.size) :
    Calls Try.prog 41 #[v] w (ReadPost pV xs (.agg #[(Value.int .i64 0), (Value.int .i64 0), (Value.string ⟨#[]⟩)]) (fun _ => repV) w) := by
  obtain ⟨ao, cap, rfl, hnc, hcm⟩ := hv.shape
  have hTY : ∀ (L : Nat) (w : World) (v : Value) (x : _), (fun _ => repV) L w v x → ∃ cs, TY Try.prog 67 cs v ∧ cs.length = 3 := by
    rintro L w v x rfl
    exact ⟨_, tyV x, rfl⟩
  have hga := World.grownBy_alloc w (.cells (List.toArray [(Value.int .i64 0), (Value.int .i64 0), (Value.string ⟨#[]⟩)]) 67) none
  have HV := hid (hv.kept hga (by cases (Value.slice ao xs.length cap).ownBlock <;> simp))
  have HB := hid hb
  have HVB := hid (hvb.mono (R' := (w.alloc (.cells (List.toArray [(Value.int .i64 0), (Value.int .i64 0), (Value.string ⟨#[]⟩)]) 67)).heap.size) (by simp))
  clear hv hb hvb hga
  go_enter Try.func41, Try.ntmps41
  go_wp2_with fail
  refine (readVal_walk pV ((fun _ => repV)) _ xs _ HV.out hl HB.out HVB.out (fun w R L s hst => value_walk R s w hst) hTY (fun _ _ _ _ _ h _ _ _ _ => h)).mono ?_
  intro e w' h
  have hz := row_of h.1 (heap_at (w := w) (o := .cells (List.toArray [(Value.int .i64 0), (Value.int .i64 0), (Value.string ⟨#[]⟩)]) 67) rfl) (by simp)
  have HZ := hid hz
  have H := hid h
  unfold ReadPost at h
  obtain ⟨hg, h⟩ := h
  clear hz
  cases hp : pV xs with
  | error n =>
    rw [hp] at h
    obtain ⟨rfl, hn⟩ := h
    have HP := hid hp
    have HG := hid hg
    clear hp hg
    generalize hV : (Value.agg #[(Value.int .i64 0), (Value.int .i64 0), (Value.string ⟨#[]⟩)]) = V
    obtain ⟨cs, ht, hcl⟩ : ∃ cs, TY Try.prog 67 cs V ∧ cs.length = 3 := ⟨[(Value.int .i64 0), (Value.int .i64 0), (Value.string ⟨#[]⟩)], by rw [← hV]; exact ztyVal, rfl⟩
    have HT := hid ht
    have hcl' : (List.toArray [(Value.int .i64 0), (Value.int .i64 0), (Value.string ⟨#[]⟩)]).size = cs.length := by rw [hcl]; rfl
    have HVV := hid hV
    clear ht hV hTY
    go_wp2_with (first | (refine wpList_storeTY rfl 67 (.tmp 2) (.tmp 7) rfl rfl rfl HT.out HZ.out hcl' ?_) | fail)
    have hVV := HVV.out
    clear HVV
    subst hVV
    exact bodyPost_ret (results_ctt rfl rfl HT.out (HT.out.stores HZ.out hcl').2.2) rfl (ReadPost.errS HP.out HG.out hn)
  | ok y =>
    obtain ⟨x, r⟩ := y
    rw [hp] at h
    obtain ⟨V, rv, rfl, h1, h2, h3⟩ := h
    obtain ⟨cs, ht, hcl⟩ := hTY (w.alloc (.cells (List.toArray [(Value.int .i64 0), (Value.int .i64 0), (Value.string ⟨#[]⟩)]) 67)).heap.size _ _ _ h1
    have HT := hid ht
    clear hTY
    have HC := hid (And.intro h1 (And.intro h2 h3))
    have HP := hid hp
    have HG := hid hg
    clear hp hg h1 h2 h3 ht
    have hcl' : (List.toArray [(Value.int .i64 0), (Value.int .i64 0), (Value.string ⟨#[]⟩)]).size = cs.length := by rw [hcl]; rfl
    go_wp2_with (first | (refine wpList_storeTY rfl 67 (.tmp 2) (.tmp 7) rfl rfl rfl HT.out HZ.out hcl' ?_) | fail)
    exact bodyPost_ret (results_ctt rfl rfl HT.out (HT.out.stores HZ.out hcl').2.2) rfl (ReadPost.okS HP.out HG.out HC.out.1 HC.out.2.1 HC.out.2.2 (fun _ _ _ _ _ h _ _ _ _ => h))
set_option maxRecDepth 100000 in
set_option maxHeartbeats 1000000 in
theorem rdxIdentifier_walk (v : Value) (xs : List Nat) (w : World) (hv : Sl w 1 v xs.length (bv xs)) (hl : xs.length ≤ 1099511627776) (hb : ∀ b ∈ xs, b < 256) (hvb : Lo v w.heap.size) :
    Calls Try.prog 73 #[v] w (ReadPost pIdf xs (.agg #[(Value.string ⟨#[]⟩), (Value.int .i64 0), (Value.int .i64 0), (Value.string ⟨#[]⟩)]) (fun _ => repIdf) w) := by
  obtain ⟨ao, cap, rfl, hnc, hcm⟩ := hv.shape
  have hTY : ∀ (L : Nat) (w : World) (v : Value) (x : _), (fun _ => repIdf) L w v x → ∃ cs, TY Try.prog 103 cs v ∧ cs.length = 4 := by
    rintro L w v x rfl
    exact ⟨_, tyIdf x, rfl⟩
  have hga := World.grownBy_alloc w (.cells (List.toArray [(Value.string ⟨#[]⟩), (Value.int .i64 0), (Value.int .i64 0), (Value.string ⟨#[]⟩)]) 103) none
  have HV := hid (hv.kept hga (by cases (Value.slice ao xs.length cap).ownBlock <;> simp))
  have HB := hid hb
  have HVB := hid (hvb.mono (R' := (w.alloc (.cells (List.toArray [(Value.string ⟨#[]⟩), (Value.int .i64 0), (Value.int .i64 0), (Value.string ⟨#[]⟩)]) 103)).heap.size) (by simp))
  clear hv hb hvb hga
  go_enter Try.func73, Try.ntmps73
  go_wp2_with fail
  refine (readIdf_walk pIdf ((fun _ => repIdf)) _ xs _ HV.out hl HB.out HVB.out (fun w R L s hst => identifier_walk R s w hst) hTY (fun _ _ _ _ _ h _ _ _ _ => h)).mono ?_
  intro e w' h
  have hz := row_of h.1 (heap_at (w := w) (o := .cells (List.toArray [(Value.string ⟨#[]⟩), (Value.int .i64 0), (Value.int .i64 0), (Value.string ⟨#[]⟩)]) 103) rfl) (by simp)
  have HZ := hid hz
  have H := hid h
  unfold ReadPost at h
  obtain ⟨hg, h⟩ := h
  clear hz
  cases hp : pIdf xs with
  | error n =>
    rw [hp] at h
    obtain ⟨rfl, hn⟩ := h
    have HP := hid hp
    have HG := hid hg
    clear hp hg
    generalize hV : (Value.agg #[(Value.string ⟨#[]⟩), (Value.int .i64 0), (Value.int .i64 0), (Value.string ⟨#[]⟩)]) = V
    obtain ⟨cs, ht, hcl⟩ : ∃ cs, TY Try.prog 103 cs V ∧ cs.length = 4 := ⟨[(Value.string ⟨#[]⟩), (Value.int .i64 0), (Value.int .i64 0), (Value.string ⟨#[]⟩)], by rw [← hV]; exact ztyIdf, rfl⟩
    have HT := hid ht
    have hcl' : (List.toArray [(Value.string ⟨#[]⟩), (Value.int .i64 0), (Value.int .i64 0), (Value.string ⟨#[]⟩)]).size = cs.length := by rw [hcl]; rfl
    have HVV := hid hV
    clear ht hV hTY
    go_wp2_with (first | (refine wpList_storeTY rfl 103 (.tmp 2) (.tmp 7) rfl rfl rfl HT.out HZ.out hcl' ?_) | fail)
    have hVV := HVV.out
    clear HVV
    subst hVV
    exact bodyPost_ret (results_ctt rfl rfl HT.out (HT.out.stores HZ.out hcl').2.2) rfl (ReadPost.errS HP.out HG.out hn)
  | ok y =>
    obtain ⟨x, r⟩ := y
    rw [hp] at h
    obtain ⟨V, rv, rfl, h1, h2, h3⟩ := h
    obtain ⟨cs, ht, hcl⟩ := hTY (w.alloc (.cells (List.toArray [(Value.string ⟨#[]⟩), (Value.int .i64 0), (Value.int .i64 0), (Value.string ⟨#[]⟩)]) 103)).heap.size _ _ _ h1
    have HT := hid ht
    clear hTY
    have HC := hid (And.intro h1 (And.intro h2 h3))
    have HP := hid hp
    have HG := hid hg
    clear hp hg h1 h2 h3 ht
    have hcl' : (List.toArray [(Value.string ⟨#[]⟩), (Value.int .i64 0), (Value.int .i64 0), (Value.string ⟨#[]⟩)]).size = cs.length := by rw [hcl]; rfl
    go_wp2_with (first | (refine wpList_storeTY rfl 103 (.tmp 2) (.tmp 7) rfl rfl rfl HT.out HZ.out hcl' ?_) | fail)
    exact bodyPost_ret (results_ctt rfl rfl HT.out (HT.out.stores HZ.out hcl').2.2) rfl (ReadPost.okS HP.out HG.out HC.out.1 HC.out.2.1 HC.out.2.2 (fun _ _ _ _ _ h _ _ _ _ => h))
set_option maxRecDepth 100000 in
set_option maxHeartbeats 1000000 in
theorem rdxLink_walk (v : Value) (xs : List Nat) (w : World) (hv : Sl w 1 v xs.length (bv xs)) (hl : xs.length ≤ 1099511627776) (hb : ∀ b ∈ xs, b < 256) (hvb : Lo v w.heap.size) :
    Calls Try.prog 71 #[v] w (ReadPost pLnk xs (.agg #[(Value.string ⟨#[]⟩), (Value.int .i64 0), (Value.int .i64 0), (Value.string ⟨#[]⟩), (Value.string ⟨#[]⟩), (Value.int .i64 0), (Value.int .i64 0), (Value.string ⟨#[]⟩), (Value.int .i64 0), (Value.bool false)]) (fun _ => repLnk) w) := by
  obtain ⟨ao, cap, rfl, hnc, hcm⟩ := hv.shape
  have hTY : ∀ (L : Nat) (w : World) (v : Value) (x : _), (fun _ => repLnk) L w v x → ∃ cs, TY Try.prog 107 cs v ∧ cs.length = 10 := by
    rintro L w v x rfl
    exact ⟨_, tyLnk x, rfl⟩
  have hga := World.grownBy_alloc w (.cells (List.toArray [(Value.string ⟨#[]⟩), (Value.int .i64 0), (Value.int .i64 0), (Value.string ⟨#[]⟩), (Value.string ⟨#[]⟩), (Value.int .i64 0), (Value.int .i64 0), (Value.string ⟨#[]⟩), (Value.int .i64 0), (Value.bool false)]) 107) none
  have HV := hid (hv.kept hga (by cases (Value.slice ao xs.length cap).ownBlock <;> simp))
  have HB := hid hb
  have HVB := hid (hvb.mono (R' := (w.alloc (.cells (List.toArray [(Value.string ⟨#[]⟩), (Value.int .i64 0), (Value.int .i64 0), (Value.string ⟨#[]⟩), (Value.string ⟨#[]⟩), (Value.int .i64 0), (Value.int .i64 0), (Value.string ⟨#[]⟩), (Value.int .i64 0), (Value.bool false)]) 107)).heap.size) (by simp))
  clear hv hb hvb hga
  go_enter Try.func71, Try.ntmps71
  go_wp2_with fail
  refine (readLnk_walk pLnk ((fun _ => repLnk)) _ xs _ HV.out hl HB.out HVB.out (fun w R L s hst => link_walk R s w hst) hTY (fun _ _ _ _ _ h _ _ _ _ => h)).mono ?_
  intro e w' h
  have hz := row_of h.1 (heap_at (w := w) (o := .cells (List.toArray [(Value.string ⟨#[]⟩), (Value.int .i64 0), (Value.int .i64 0), (Value.string ⟨#[]⟩), (Value.string ⟨#[]⟩), (Value.int .i64 0), (Value.int .i64 0), (Value.string ⟨#[]⟩), (Value.int .i64 0), (Value.bool false)]) 107) rfl) (by simp)
  have HZ := hid hz
  have H := hid h
  unfold ReadPost at h
  obtain ⟨hg, h⟩ := h
  clear hz
  cases hp : pLnk xs with
  | error n =>
    rw [hp] at h
    obtain ⟨rfl, hn⟩ := h
    have HP := hid hp
    have HG := hid hg
    clear hp hg
    generalize hV : (Value.agg #[(Value.string ⟨#[]⟩), (Value.int .i64 0), (Value.int .i64 0), (Value.string ⟨#[]⟩), (Value.string ⟨#[]⟩), (Value.int .i64 0), (Value.int .i64 0), (Value.string ⟨#[]⟩), (Value.int .i64 0), (Value.bool false)]) = V
    obtain ⟨cs, ht, hcl⟩ : ∃ cs, TY Try.prog 107 cs V ∧ cs.length = 10 := ⟨[(Value.string ⟨#[]⟩), (Value.int .i64 0), (Value.int .i64 0), (Value.string ⟨#[]⟩), (Value.string ⟨#[]⟩), (Value.int .i64 0), (Value.int .i64 0), (Value.string ⟨#[]⟩), (Value.int .i64 0), (Value.bool false)], by rw [← hV]; exact ztyLnk, rfl⟩
    have HT := hid ht
    have hcl' : (List.toArray [(Value.string ⟨#[]⟩), (Value.int .i64 0), (Value.int .i64 0), (Value.string ⟨#[]⟩), (Value.string ⟨#[]⟩), (Value.int .i64 0), (Value.int .i64 0), (Value.string ⟨#[]⟩), (Value.int .i64 0), (Value.bool false)]).size = cs.length := by rw [hcl]; rfl
    have HVV := hid hV
    clear ht hV hTY
    go_wp2_with (first | (refine wpList_storeTY rfl 107 (.tmp 2) (.tmp 7) rfl rfl rfl HT.out HZ.out hcl' ?_) | fail)
    have hVV := HVV.out
    clear HVV
    subst hVV
    exact bodyPost_ret (results_ctt rfl rfl HT.out (HT.out.stores HZ.out hcl').2.2) rfl (ReadPost.errS HP.out HG.out hn)
  | ok y =>
    obtain ⟨x, r⟩ := y
    rw [hp] at h
    obtain ⟨V, rv, rfl, h1, h2, h3⟩ := h
    obtain ⟨cs, ht, hcl⟩ := hTY (w.alloc (.cells (List.toArray [(Value.string ⟨#[]⟩), (Value.int .i64 0), (Value.int .i64 0), (Value.string ⟨#[]⟩), (Value.string ⟨#[]⟩), (Value.int .i64 0), (Value.int .i64 0), (Value.string ⟨#[]⟩), (Value.int .i64 0), (Value.bool false)]) 107)).heap.size _ _ _ h1
    have HT := hid ht
    clear hTY
    have HC := hid (And.intro h1 (And.intro h2 h3))
    have HP := hid hp
    have HG := hid hg
    clear hp hg h1 h2 h3 ht
    have hcl' : (List.toArray [(Value.string ⟨#[]⟩), (Value.int .i64 0), (Value.int .i64 0), (Value.string ⟨#[]⟩), (Value.string ⟨#[]⟩), (Value.int .i64 0), (Value.int .i64 0), (Value.string ⟨#[]⟩), (Value.int .i64 0), (Value.bool false)]).size = cs.length := by rw [hcl]; rfl
    go_wp2_with (first | (refine wpList_storeTY rfl 107 (.tmp 2) (.tmp 7) rfl rfl rfl HT.out HZ.out hcl' ?_) | fail)
    exact bodyPost_ret (results_ctt rfl rfl HT.out (HT.out.stores HZ.out hcl').2.2) rfl (ReadPost.okS HP.out HG.out HC.out.1 HC.out.2.1 HC.out.2.2 (fun _ _ _ _ _ h _ _ _ _ => h))
set_option maxRecDepth 100000 in
set_option maxHeartbeats 1000000 in
theorem rdxHold_walk (v : Value) (xs : List Nat) (w : World) (hv : Sl w 1 v xs.length (bv xs)) (hl : xs.length ≤ 1099511627776) (hb : ∀ b ∈ xs, b < 256) (hvb : Lo v w.heap.size) :
    Calls Try.prog 72 #[v] w (ReadPost pHld xs (.agg #[(Value.int .i64 0), (Value.int .i64 0), (Value.string ⟨#[]⟩), (Value.int .i64 0), (Value.int .i64 0), (Value.string ⟨#[]⟩), (Value.int .i64 0), (Value.int .i64 0), (Value.int .i64 0)]) (fun _ => repHld) w) := by
  obtain ⟨ao, cap, rfl, hnc, hcm⟩ := hv.shape
  have hTY : ∀ (L : Nat) (w : World) (v : Value) (x : _), (fun _ => repHld) L w v x → ∃ cs, TY Try.prog 109 cs v ∧ cs.length = 9 := by
    rintro L w v x rfl
    exact ⟨_, tyHld x, rfl⟩
  have hga := World.grownBy_alloc w (.cells (List.toArray [(Value.int .i64 0), (Value.int .i64 0), (Value.string ⟨#[]⟩), (Value.int .i64 0), (Value.int .i64 0), (Value.string ⟨#[]⟩), (Value.int .i64 0), (Value.int .i64 0), (Value.int .i64 0)]) 109) none
  have HV := hid (hv.kept hga (by cases (Value.slice ao xs.length cap).ownBlock <;> simp))
  have HB := hid hb
  have HVB := hid (hvb.mono (R' := (w.alloc (.cells (List.toArray [(Value.int .i64 0), (Value.int .i64 0), (Value.string ⟨#[]⟩), (Value.int .i64 0), (Value.int .i64 0), (Value.string ⟨#[]⟩), (Value.int .i64 0), (Value.int .i64 0), (Value.int .i64 0)]) 109)).heap.size) (by simp))
  clear hv hb hvb hga
  go_enter Try.func72, Try.ntmps72
  go_wp2_with fail
  refine (readHld_walk pHld ((fun _ => repHld)) _ xs _ HV.out hl HB.out HVB.out (fun w R L s hst => hold_walk R s w hst) hTY (fun _ _ _ _ _ h _ _ _ _ => h)).mono ?_
  intro e w' h
  have hz := row_of h.1 (heap_at (w := w) (o := .cells (List.toArray [(Value.int .i64 0), (Value.int .i64 0), (Value.string ⟨#[]⟩), (Value.int .i64 0), (Value.int .i64 0), (Value.string ⟨#[]⟩), (Value.int .i64 0), (Value.int .i64 0), (Value.int .i64 0)]) 109) rfl) (by simp)
  have HZ := hid hz
  have H := hid h
  unfold ReadPost at h
  obtain ⟨hg, h⟩ := h
  clear hz
  cases hp : pHld xs with
  | error n =>
    rw [hp] at h
    obtain ⟨rfl, hn⟩ := h
    have HP := hid hp
    have HG := hid hg
    clear hp hg
    generalize hV : (Value.agg #[(Value.int .i64 0), (Value.int .i64 0), (Value.string ⟨#[]⟩), (Value.int .i64 0), (Value.int .i64 0), (Value.string ⟨#[]⟩), (Value.int .i64 0), (Value.int .i64 0), (Value.int .i64 0)]) = V
    obtain ⟨cs, ht, hcl⟩ : ∃ cs, TY Try.prog 109 cs V ∧ cs.length = 9 := ⟨[(Value.int .i64 0), (Value.int .i64 0), (Value.string ⟨#[]⟩), (Value.int .i64 0), (Value.int .i64 0), (Value.string ⟨#[]⟩), (Value.int .i64 0), (Value.int .i64 0), (Value.int .i64 0)], by rw [← hV]; exact ztyHld, rfl⟩
    have HT := hid ht
    have hcl' : (List.toArray [(Value.int .i64 0), (Value.int .i64 0), (Value.string ⟨#[]⟩), (Value.int .i64 0), (Value.int .i64 0), (Value.string ⟨#[]⟩), (Value.int .i64 0), (Value.int .i64 0), (Value.int .i64 0)]).size = cs.length := by rw [hcl]; rfl
    have HVV := hid hV
    clear ht hV hTY
    go_wp2_with (first | (refine wpList_storeTY rfl 109 (.tmp 2) (.tmp 7) rfl rfl rfl HT.out HZ.out hcl' ?_) | fail)
    have hVV := HVV.out
    clear HVV
    subst hVV
    exact bodyPost_ret (results_ctt rfl rfl HT.out (HT.out.stores HZ.out hcl').2.2) rfl (ReadPost.errS HP.out HG.out hn)
  | ok y =>
    obtain ⟨x, r⟩ := y
    rw [hp] at h
    obtain ⟨V, rv, rfl, h1, h2, h3⟩ := h
    obtain ⟨cs, ht, hcl⟩ := hTY (w.alloc (.cells (List.toArray [(Value.int .i64 0), (Value.int .i64 0), (Value.string ⟨#[]⟩), (Value.int .i64 0), (Value.int .i64 0), (Value.string ⟨#[]⟩), (Value.int .i64 0), (Value.int .i64 0), (Value.int .i64 0)]) 109)).heap.size _ _ _ h1
    have HT := hid ht
    clear hTY
    have HC := hid (And.intro h1 (And.intro h2 h3))
    have HP := hid hp
    have HG := hid hg
    clear hp hg h1 h2 h3 ht
    have hcl' : (List.toArray [(Value.int .i64 0), (Value.int .i64 0), (Value.string ⟨#[]⟩), (Value.int .i64 0), (Value.int .i64 0), (Value.string ⟨#[]⟩), (Value.int .i64 0), (Value.int .i64 0), (Value.int .i64 0)]).size = cs.length := by rw [hcl]; rfl
    go_wp2_with (first | (refine wpList_storeTY rfl 109 (.tmp 2) (.tmp 7) rfl rfl rfl HT.out HZ.out hcl' ?_) | fail)
    exact bodyPost_ret (results_ctt rfl rfl HT.out (HT.out.stores HZ.out hcl').2.2) rfl (ReadPost.okS HP.out HG.out HC.out.1 HC.out.2.1 HC.out.2.2 (fun _ _ _ _ _ h _ _ _ _ => h))
set_option maxRecDepth 100000 in
set_option maxHeartbeats 1000000 in
theorem rdxRequest_walk (v : Value) (xs : List Nat) (w : World) (hv : Sl w 1 v xs.length (bv xs)) (hl : xs.length ≤ 1099511627776) (hb : ∀ b ∈ xs, b < 256) (hvb : Lo v w.heap.size) :
    Calls Try.prog 70 #[v] w (ReadPost pReq xs (.agg #[(Value.int .i64 0), (Value.string ⟨#[]⟩), (Value.int .i64 0), (Value.int .i64 0), (Value.string ⟨#[]⟩), (Value.int .i64 0), (Value.int .i64 0), (Value.int .i64 0)]) (fun _ => repReq) w) := by
  obtain ⟨ao, cap, rfl, hnc, hcm⟩ := hv.shape
  have hTY : ∀ (L : Nat) (w : World) (v : Value) (x : _), (fun _ => repReq) L w v x → ∃ cs, TY Try.prog 105 cs v ∧ cs.length = 8 := by
    rintro L w v x rfl
    exact ⟨_, tyReq x, rfl⟩
  have hga := World.grownBy_alloc w (.cells (List.toArray [(Value.int .i64 0), (Value.string ⟨#[]⟩), (Value.int .i64 0), (Value.int .i64 0), (Value.string ⟨#[]⟩), (Value.int .i64 0), (Value.int .i64 0), (Value.int .i64 0)]) 105) none
  have HV := hid (hv.kept hga (by cases (Value.slice ao xs.length cap).ownBlock <;> simp))
  have HB := hid hb
  have HVB := hid (hvb.mono (R' := (w.alloc (.cells (List.toArray [(Value.int .i64 0), (Value.string ⟨#[]⟩), (Value.int .i64 0), (Value.int .i64 0), (Value.string ⟨#[]⟩), (Value.int .i64 0), (Value.int .i64 0), (Value.int .i64 0)]) 105)).heap.size) (by simp))
  clear hv hb hvb hga
  go_enter Try.func70, Try.ntmps70
  go_wp2_with fail
  refine (readReq_walk pReq ((fun _ => repReq)) _ xs _ HV.out hl HB.out HVB.out (fun w R L s hst => request_walk R s w hst) hTY (fun _ _ _ _ _ h _ _ _ _ => h)).mono ?_
  intro e w' h
  have hz := row_of h.1 (heap_at (w := w) (o := .cells (List.toArray [(Value.int .i64 0), (Value.string ⟨#[]⟩), (Value.int .i64 0), (Value.int .i64 0), (Value.string ⟨#[]⟩), (Value.int .i64 0), (Value.int .i64 0), (Value.int .i64 0)]) 105) rfl) (by simp)
  have HZ := hid hz
  have H := hid h
  unfold ReadPost at h
  obtain ⟨hg, h⟩ := h
  clear hz
  cases hp : pReq xs with
  | error n =>
    rw [hp] at h
    obtain ⟨rfl, hn⟩ := h
    have HP := hid hp
    have HG := hid hg
    clear hp hg
    generalize hV : (Value.agg #[(Value.int .i64 0), (Value.string ⟨#[]⟩), (Value.int .i64 0), (Value.int .i64 0), (Value.string ⟨#[]⟩), (Value.int .i64 0), (Value.int .i64 0), (Value.int .i64 0)]) = V
    obtain ⟨cs, ht, hcl⟩ : ∃ cs, TY Try.prog 105 cs V ∧ cs.length = 8 := ⟨[(Value.int .i64 0), (Value.string ⟨#[]⟩), (Value.int .i64 0), (Value.int .i64 0), (Value.string ⟨#[]⟩), (Value.int .i64 0), (Value.int .i64 0), (Value.int .i64 0)], by rw [← hV]; exact ztyReq, rfl⟩
    have HT := hid ht
    have hcl' : (List.toArray [(Value.int .i64 0), (Value.string ⟨#[]⟩), (Value.int .i64 0), (Value.int .i64 0), (Value.string ⟨#[]⟩), (Value.int .i64 0), (Value.int .i64 0), (Value.int .i64 0)]).size = cs.length := by rw [hcl]; rfl
    have HVV := hid hV
    clear ht hV hTY
    go_wp2_with (first | (refine wpList_storeTY rfl 105 (.tmp 2) (.tmp 7) rfl rfl rfl HT.out HZ.out hcl' ?_) | fail)
    have hVV := HVV.out
    clear HVV
    subst hVV
    exact bodyPost_ret (results_ctt rfl rfl HT.out (HT.out.stores HZ.out hcl').2.2) rfl (ReadPost.errS HP.out HG.out hn)
  | ok y =>
    obtain ⟨x, r⟩ := y
    rw [hp] at h
    obtain ⟨V, rv, rfl, h1, h2, h3⟩ := h
    obtain ⟨cs, ht, hcl⟩ := hTY (w.alloc (.cells (List.toArray [(Value.int .i64 0), (Value.string ⟨#[]⟩), (Value.int .i64 0), (Value.int .i64 0), (Value.string ⟨#[]⟩), (Value.int .i64 0), (Value.int .i64 0), (Value.int .i64 0)]) 105)).heap.size _ _ _ h1
    have HT := hid ht
    clear hTY
    have HC := hid (And.intro h1 (And.intro h2 h3))
    have HP := hid hp
    have HG := hid hg
    clear hp hg h1 h2 h3 ht
    have hcl' : (List.toArray [(Value.int .i64 0), (Value.string ⟨#[]⟩), (Value.int .i64 0), (Value.int .i64 0), (Value.string ⟨#[]⟩), (Value.int .i64 0), (Value.int .i64 0), (Value.int .i64 0)]).size = cs.length := by rw [hcl]; rfl
    go_wp2_with (first | (refine wpList_storeTY rfl 105 (.tmp 2) (.tmp 7) rfl rfl rfl HT.out HZ.out hcl' ?_) | fail)
    exact bodyPost_ret (results_ctt rfl rfl HT.out (HT.out.stores HZ.out hcl').2.2) rfl (ReadPost.okS HP.out HG.out HC.out.1 HC.out.2.1 HC.out.2.2 (fun _ _ _ _ _ h _ _ _ _ => h))
set_option maxRecDepth 100000 in
set_option maxHeartbeats 1000000 in
theorem rdxChange_walk (v : Value) (xs : List Nat) (w : World) (hv : Sl w 1 v xs.length (bv xs)) (hl : xs.length ≤ 1099511627776) (hb : ∀ b ∈ xs, b < 256) (hvb : Lo v w.heap.size) :
    Calls Try.prog 52 #[v] w (ReadPost pCh xs (.agg #[(Value.int .i64 0), (Value.int .i64 0), (Value.int .i64 0), (Value.int .i64 0), (Value.slice none 0 0), (Value.int .i64 0), (Value.int .i64 0), (Value.string ⟨#[]⟩), (Value.int .i64 0), (Value.int .i64 0), (Value.int .i64 0), (Value.string ⟨#[]⟩)]) repCh w) := by
  obtain ⟨ao, cap, rfl, hnc, hcm⟩ := hv.shape
  have hTY : ∀ (L : Nat) (w : World) (v : Value) (x : _), repCh L w v x → ∃ cs, TY Try.prog 86 cs v ∧ cs.length = 12 := by
    rintro L w v x ⟨r, rfl, hr⟩
    exact ⟨_, tyCh x r (oneCell_sl hr.1), rfl⟩
  have hga := World.grownBy_alloc w (.cells (List.toArray [(Value.int .i64 0), (Value.int .i64 0), (Value.int .i64 0), (Value.int .i64 0), (Value.slice none 0 0), (Value.int .i64 0), (Value.int .i64 0), (Value.string ⟨#[]⟩), (Value.int .i64 0), (Value.int .i64 0), (Value.int .i64 0), (Value.string ⟨#[]⟩)]) 86) none
  have HV := hid (hv.kept hga (by cases (Value.slice ao xs.length cap).ownBlock <;> simp))
  have HB := hid hb
  have HVB := hid (hvb.mono (R' := (w.alloc (.cells (List.toArray [(Value.int .i64 0), (Value.int .i64 0), (Value.int .i64 0), (Value.int .i64 0), (Value.slice none 0 0), (Value.int .i64 0), (Value.int .i64 0), (Value.string ⟨#[]⟩), (Value.int .i64 0), (Value.int .i64 0), (Value.int .i64 0), (Value.string ⟨#[]⟩)]) 86)).heap.size) (by simp))
  clear hv hb hvb hga
  go_enter Try.func52, Try.ntmps52
  go_wp2_with fail
  refine (readCh_walk pCh (repCh) _ xs _ HV.out hl HB.out HVB.out (fun w R L s hst => change_walk R s w hst) hTY repCh_mono).mono ?_
  intro e w' h
  have hz := row_of h.1 (heap_at (w := w) (o := .cells (List.toArray [(Value.int .i64 0), (Value.int .i64 0), (Value.int .i64 0), (Value.int .i64 0), (Value.slice none 0 0), (Value.int .i64 0), (Value.int .i64 0), (Value.string ⟨#[]⟩), (Value.int .i64 0), (Value.int .i64 0), (Value.int .i64 0), (Value.string ⟨#[]⟩)]) 86) rfl) (by simp)
  have HZ := hid hz
  have H := hid h
  unfold ReadPost at h
  obtain ⟨hg, h⟩ := h
  clear hz
  cases hp : pCh xs with
  | error n =>
    rw [hp] at h
    obtain ⟨rfl, hn⟩ := h
    have HP := hid hp
    have HG := hid hg
    clear hp hg
    generalize hV : (Value.agg #[(Value.int .i64 0), (Value.int .i64 0), (Value.int .i64 0), (Value.int .i64 0), (Value.slice none 0 0), (Value.int .i64 0), (Value.int .i64 0), (Value.string ⟨#[]⟩), (Value.int .i64 0), (Value.int .i64 0), (Value.int .i64 0), (Value.string ⟨#[]⟩)]) = V
    obtain ⟨cs, ht, hcl⟩ : ∃ cs, TY Try.prog 86 cs V ∧ cs.length = 12 := ⟨[(Value.int .i64 0), (Value.int .i64 0), (Value.int .i64 0), (Value.int .i64 0), (Value.slice none 0 0), (Value.int .i64 0), (Value.int .i64 0), (Value.string ⟨#[]⟩), (Value.int .i64 0), (Value.int .i64 0), (Value.int .i64 0), (Value.string ⟨#[]⟩)], by rw [← hV]; exact ztyCh, rfl⟩
    have HT := hid ht
    have hcl' : (List.toArray [(Value.int .i64 0), (Value.int .i64 0), (Value.int .i64 0), (Value.int .i64 0), (Value.slice none 0 0), (Value.int .i64 0), (Value.int .i64 0), (Value.string ⟨#[]⟩), (Value.int .i64 0), (Value.int .i64 0), (Value.int .i64 0), (Value.string ⟨#[]⟩)]).size = cs.length := by rw [hcl]; rfl
    have HVV := hid hV
    clear ht hV hTY
    go_wp2_with (first | (refine wpList_storeTY rfl 86 (.tmp 2) (.tmp 7) rfl rfl rfl HT.out HZ.out hcl' ?_) | fail)
    have hVV := HVV.out
    clear HVV
    subst hVV
    exact bodyPost_ret (results_ctt rfl rfl HT.out (HT.out.stores HZ.out hcl').2.2) rfl (ReadPost.errS HP.out HG.out hn)
  | ok y =>
    obtain ⟨x, r⟩ := y
    rw [hp] at h
    obtain ⟨V, rv, rfl, h1, h2, h3⟩ := h
    obtain ⟨cs, ht, hcl⟩ := hTY (w.alloc (.cells (List.toArray [(Value.int .i64 0), (Value.int .i64 0), (Value.int .i64 0), (Value.int .i64 0), (Value.slice none 0 0), (Value.int .i64 0), (Value.int .i64 0), (Value.string ⟨#[]⟩), (Value.int .i64 0), (Value.int .i64 0), (Value.int .i64 0), (Value.string ⟨#[]⟩)]) 86)).heap.size _ _ _ h1
    have HT := hid ht
    clear hTY
    have HC := hid (And.intro h1 (And.intro h2 h3))
    have HP := hid hp
    have HG := hid hg
    clear hp hg h1 h2 h3 ht
    have hcl' : (List.toArray [(Value.int .i64 0), (Value.int .i64 0), (Value.int .i64 0), (Value.int .i64 0), (Value.slice none 0 0), (Value.int .i64 0), (Value.int .i64 0), (Value.string ⟨#[]⟩), (Value.int .i64 0), (Value.int .i64 0), (Value.int .i64 0), (Value.string ⟨#[]⟩)]).size = cs.length := by rw [hcl]; rfl
    go_wp2_with (first | (refine wpList_storeTY rfl 86 (.tmp 2) (.tmp 7) rfl rfl rfl HT.out HZ.out hcl' ?_) | fail)
    exact bodyPost_ret (results_ctt rfl rfl HT.out (HT.out.stores HZ.out hcl').2.2) rfl (ReadPost.okS HP.out HG.out HC.out.1 HC.out.2.1 HC.out.2.2 repCh_mono)
set_option maxRecDepth 100000 in
set_option maxHeartbeats 1000000 in
theorem rdxRecord_walk (v : Value) (xs : List Nat) (w : World) (hv : Sl w 1 v xs.length (bv xs)) (hl : xs.length ≤ 1099511627776) (hb : ∀ b ∈ xs, b < 256) (hvb : Lo v w.heap.size) :
    Calls Try.prog 56 #[v] w (ReadPost pRec xs (.agg #[(Value.slice none 0 0), (Value.slice none 0 0), (Value.int .i64 0)]) repRec w) := by
  obtain ⟨ao, cap, rfl, hnc, hcm⟩ := hv.shape
  have hTY : ∀ (L : Nat) (w : World) (v : Value) (x : _), repRec L w v x → ∃ cs, TY Try.prog 95 cs v ∧ cs.length = 3 := by
    rintro L w v x ⟨r, q, rfl, hr, hq⟩
    exact ⟨_, tyRec r q x.day (oneCell_sl hr.1) (oneCell_sl hq.1), rfl⟩
  have hga := World.grownBy_alloc w (.cells (List.toArray [(Value.slice none 0 0), (Value.slice none 0 0), (Value.int .i64 0)]) 95) none
  have HV := hid (hv.kept hga (by cases (Value.slice ao xs.length cap).ownBlock <;> simp))
  have HB := hid hb
  have HVB := hid (hvb.mono (R' := (w.alloc (.cells (List.toArray [(Value.slice none 0 0), (Value.slice none 0 0), (Value.int .i64 0)]) 95)).heap.size) (by simp))
  clear hv hb hvb hga
  go_enter Try.func56, Try.ntmps56
  go_wp2_with fail
  refine (readRec_walk pRec (repRec) _ xs _ HV.out hl HB.out HVB.out (fun w R L s hst => record_walk R s w hst) hTY repRec_mono).mono ?_
  intro e w' h
  have hz := row_of h.1 (heap_at (w := w) (o := .cells (List.toArray [(Value.slice none 0 0), (Value.slice none 0 0), (Value.int .i64 0)]) 95) rfl) (by simp)
  have HZ := hid hz
  have H := hid h
  unfold ReadPost at h
  obtain ⟨hg, h⟩ := h
  clear hz
  cases hp : pRec xs with
  | error n =>
    rw [hp] at h
    obtain ⟨rfl, hn⟩ := h
    have HP := hid hp
    have HG := hid hg
    clear hp hg
    generalize hV : (Value.agg #[(Value.slice none 0 0), (Value.slice none 0 0), (Value.int .i64 0)]) = V
    obtain ⟨cs, ht, hcl⟩ : ∃ cs, TY Try.prog 95 cs V ∧ cs.length = 3 := ⟨[(Value.slice none 0 0), (Value.slice none 0 0), (Value.int .i64 0)], by rw [← hV]; exact ztyRec, rfl⟩
    have HT := hid ht
    have hcl' : (List.toArray [(Value.slice none 0 0), (Value.slice none 0 0), (Value.int .i64 0)]).size = cs.length := by rw [hcl]; rfl
    have HVV := hid hV
    clear ht hV hTY
    go_wp2_with (first | (refine wpList_storeTY rfl 95 (.tmp 2) (.tmp 7) rfl rfl rfl HT.out HZ.out hcl' ?_) | fail)
    have hVV := HVV.out
    clear HVV
    subst hVV
    exact bodyPost_ret (results_ctt rfl rfl HT.out (HT.out.stores HZ.out hcl').2.2) rfl (ReadPost.errS HP.out HG.out hn)
  | ok y =>
    obtain ⟨x, r⟩ := y
    rw [hp] at h
    obtain ⟨V, rv, rfl, h1, h2, h3⟩ := h
    obtain ⟨cs, ht, hcl⟩ := hTY (w.alloc (.cells (List.toArray [(Value.slice none 0 0), (Value.slice none 0 0), (Value.int .i64 0)]) 95)).heap.size _ _ _ h1
    have HT := hid ht
    clear hTY
    have HC := hid (And.intro h1 (And.intro h2 h3))
    have HP := hid hp
    have HG := hid hg
    clear hp hg h1 h2 h3 ht
    have hcl' : (List.toArray [(Value.slice none 0 0), (Value.slice none 0 0), (Value.int .i64 0)]).size = cs.length := by rw [hcl]; rfl
    go_wp2_with (first | (refine wpList_storeTY rfl 95 (.tmp 2) (.tmp 7) rfl rfl rfl HT.out HZ.out hcl' ?_) | fail)
    exact bodyPost_ret (results_ctt rfl rfl HT.out (HT.out.stores HZ.out hcl').2.2) rfl (ReadPost.okS HP.out HG.out HC.out.1 HC.out.2.1 HC.out.2.2 repRec_mono)
end

end Go.Proofs.Ytkeiffccllfkpaa
