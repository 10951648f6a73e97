/- The reader's ledger entry. -/
import Derived.Test.YtkeiffccllfkpaaN17
namespace Go.Proofs.Ytkeiffccllfkpaa
open Go.RowKit
set_option linter.unusedSimpArgs false

theorem FR.write {T : TypeId} {L : Nat} {w W : World} {R B : Nat} {s : St} {TT : TypeId} {Z C : List Value} (h : FR T L w W R B s TT Z C) {W' : World} {C' C'' : List Value} (g : W.grownBy W' (some B)) (hb : W'.heap[B]? = some (.cells C'.toArray TT (0, 0))) (e : C' = C'') : FR T L w W' R B s TT Z C'' := by
  subst e
  exact ⟨h.lt, h.hB, grown_R h.hg g (Nat.le_of_lt h.hB), h.st.past g (by have := h.lt; have := h.hB; omega), row_of g h.b0 (by have := h.hB; simp; omega), hb⟩
theorem FR.fing {T : TypeId} {L : Nat} {w W : World} {R B : Nat} {s : St} {TT : TypeId} {Z C : List Value} (h : FR T L w W R B s TT Z C) {W' : World} (g : W.grownBy W' (some w.heap.size)) : w.grownBy W' (some R) ∧ RSt T L W' R s :=
  ⟨grown_R h.hg g (Nat.le_refl _), h.st.past g h.lt⟩
theorem FR.c {T : TypeId} {L : Nat} {w W : World} {R B : Nat} {s : St} {TT : TypeId} {Z C : List Value} (h : FR T L w W R B s TT Z C) (k : Nat) {v : Value} (e : C[k]? = some v) : W.cell? ⟨B, k, none⟩ = some v := by
  rw [cell_of_row _ _ _ _ _ _ h.b1]
  simpa using e
theorem tyLE {e : LE} {v s : Value} (hv : v.oneCell' = true) (hs : s.oneCell' = true) (hr : e.root.length = 32) : TY Try.prog 111 (lecells e v s) (leval e v s) :=
  TY.agg Try.underlying111 rfl (by rw [lecells_len e v s hr]; kernel_rfl) (by
    simp only [lecells, reqcells, lnkcells, hldcells, idfcells, List.forall_mem_append, List.forall_mem_cons]
    repeat' apply And.intro
    all_goals first | rfl | exact hv | exact hs | exact fun c hc => bv_one hc | (intro c hc; cases hc))
def repLE (L : Nat) (w : World) (v : Value) (x : LE) : Prop := ∃ vs ss, v = leval x vs ss ∧ repVers L w vs x.vers ∧ repSrcs L w ss x.srcs ∧ x.root.length = 32 ∧ ∀ b ∈ x.root, b < 256
theorem repVers_nil (L : Nat) (w : World) : repVers L w nilS [] := ⟨Sl.nil _ _, fun k hk => by simp [nilS, Value.ownBlock] at hk, by simp⟩
theorem repSrcs_nil (L : Nat) (w : World) : repSrcs L w nilS [] := ⟨Sl.nil _ _, fun k hk => by simp [nilS, Value.ownBlock] at hk, by simp⟩
theorem nil_one : nilS.oneCell' = true := rfl
theorem z32_ok : z32.length = 32 ∧ ∀ b ∈ z32, b < 256 := ⟨by simp [z32], fun b hb => by have := List.eq_of_mem_replicate hb; omega⟩
theorem repLE_mono (L : Nat) (w w' : World) (v : Value) (x : LE) (h : repLE L w v x) (hs : w.heap.size ≤ w'.heap.size) (hk : ∀ k, L ≤ k → k < w.heap.size → w'.heap[k]? = w.heap[k]?) (L' : Nat) (hL : L' ≤ L) : repLE L' w' v x := by
  obtain ⟨vs, ss, h1, h2, h3, h4⟩ := h
  exact ⟨vs, ss, h1, repVers_mono L w w' _ _ h2 hs hk L' hL, repSrcs_mono L w w' _ _ h3 hs hk L' hL, h4⟩
theorem slice_one {w : World} {sz : Nat} {v : Value} {n : Nat} {xs : List Value} (h : Sl w sz v n xs) : v.oneCell' = true := by
  obtain ⟨ao, cap, rfl, _⟩ := h.shape
  rfl
theorem le_len0 (k d p s : Int) (a b : Value) : (lecells (LE.base k d p s) a b).length = 65 := lecells_len _ _ _ (by simp [LE.base, z32])
theorem repVers.past {L : Nat} {w w' : World} {B : Nat} {v : Value} {l : List Ver} (h : repVers L w v l) (g : w.grownBy w' (some B)) (hB : B < L) : repVers L w' v l := repVers_mono L w w' v l h g.size (fun k h1 h2 => g.block k h2 (by simp; omega)) L (Nat.le_refl _)
theorem repSrcs.past {L : Nat} {w w' : World} {B : Nat} {v : Value} {l : List Src} (h : repSrcs L w v l) (g : w.grownBy w' (some B)) (hB : B < L) : repSrcs L w' v l := repSrcs_mono L w w' v l h g.size (fun k h1 h2 => g.block k h2 (by simp; omega)) L (Nat.le_refl _)
theorem repVers.down {L L' : Nat} {w : World} {v : Value} {l : List Ver} (h : repVers L w v l) (hL : L' ≤ L) : repVers L' w v l := ⟨h.1, fun k hk => ⟨Nat.le_trans hL (h.2 k hk).1, (h.2 k hk).2⟩, h.3⟩
theorem repSrcs.down {L L' : Nat} {w : World} {v : Value} {l : List Src} (h : repSrcs L w v l) (hL : L' ≤ L) : repSrcs L' w v l := ⟨h.1, fun k hk => ⟨Nat.le_trans hL (h.2 k hk).1, (h.2 k hk).2⟩, h.3⟩

theorem le_setroot (e : LE) (v s : Value) (x : List Nat) (h : x.length = 32) : (lecells (LE.base e.kind e.day e.plan e.step) v s).take 33 ++ (bv x ++ (lecells (LE.base e.kind e.day e.plan e.step) v s).drop (33 + (bv x).length)) = lecells { LE.base e.kind e.day e.plan e.step with root := x } v s := by
  rw [bv_length, h]
  have : (lecells (LE.base e.kind e.day e.plan e.step) v s).drop (33 + 32) = [] := rfl
  rw [this, List.append_nil]
  rfl

set_option maxRecDepth 100000 in
set_option maxHeartbeats 2000000 in
theorem ledgerEntry_walk {L : Nat} (R : Nat) (s : St) (w : World) (h : RSt 201 L w R s) :
    Calls Try.prog 138 #[.pointer (some ⟨R, 0, none⟩)] w (RdPost 201 L w R pLE s (repLE w.heap.size)) := by
  have hR := h.lt
  have F0 := hid (FR.start 111 (lecells (LE.base 0 0 0 0) nilS nilS) h)
  clear h
  go_enter Try.func138, Try.ntmps138
  go_wp2_with fail
  refine (intIn_walk R s 1 7 _ F0.out.st).mono ?_
  rintro e w1 ⟨v1, x1, s1, rfl, ⟨rfl, hn⟩, hg, hst, hrel⟩
  have R1 := hid hrel
  have G1 := hid (F0.out.call hg hst)
  clear hn hg hst hrel
  go_wp2_with (first | (refine wpList_storeAt rfl 3 (.tmp 6) (.tmp 5) rfl rfl rfl (ty3 x1) G1.out.b1 (by rw [le_len0]; exact Nat.le_of_ble_eq_true rfl) ?_; intro W1 g1 hb1) | fail)
  have F1 := hid (G1.out.write g1 hb1 (C'' := lecells (LE.base x1 0 0 0) nilS nilS) rfl)
  clear g1 hb1
  refine (int_walk R s1 _ F1.out.st).mono ?_
  rintro e w2 ⟨v2, x2, s2, rfl, ⟨rfl, hn⟩, hg, hst, hrel⟩
  have R2 := hid hrel
  have G2 := hid (F1.out.call hg hst)
  clear hn hg hst hrel
  go_wp2_with (first | (refine wpList_storeAt rfl 3 (.tmp 9) (.tmp 8) rfl rfl rfl (ty3 x2) G2.out.b1 (by rw [le_len0]; exact Nat.le_of_ble_eq_true rfl) ?_; intro W2 g2 hb2) | fail)
  have F2 := hid (G2.out.write g2 hb2 (C'' := lecells (LE.base x1 x2 0 0) nilS nilS) rfl)
  clear g2 hb2
  refine (int_walk R s2 _ F2.out.st).mono ?_
  rintro e w3 ⟨v3, x3, s3, rfl, ⟨rfl, hn⟩, hg, hst, hrel⟩
  have R3 := hid hrel
  have G3 := hid (F2.out.call hg hst)
  clear hn hg hst hrel
  go_wp2_with (first | (refine wpList_storeAt rfl 3 (.tmp 12) (.tmp 11) rfl rfl rfl (ty3 x3) G3.out.b1 (by rw [le_len0]; exact Nat.le_of_ble_eq_true rfl) ?_; intro W3 g3 hb3) | fail)
  have F3 := hid (G3.out.write g3 hb3 (C'' := lecells (LE.base x1 x2 x3 0) nilS nilS) rfl)
  clear g3 hb3
  refine (int_walk R s3 _ F3.out.st).mono ?_
  rintro e w4 ⟨v4, x4, s4, rfl, ⟨rfl, hn⟩, hg, hst, hrel⟩
  have R4 := hid hrel
  have G4 := hid (F3.out.call hg hst)
  clear hn hg hst hrel
  by_cases h1 : x1 = 1
  · have H1 := hid h1
    clear h1
    have b1 : (x1 == 1) = true := by rw [H1.out]; rfl
    go_wp2_with (first | (refine wpList_storeAt rfl 3 (.tmp 15) (.tmp 14) rfl rfl rfl (ty3 x4) G4.out.b1 (by rw [le_len0]; exact Nat.le_of_ble_eq_true rfl) ?_; intro W4 g4 hb4; have F4 := hid (G4.out.write g4 hb4 (C'' := lecells (LE.base x1 x2 x3 x4) nilS nilS) rfl); have c0 := F4.out.c 0 (v := .int .i64 x1) rfl; clear g4 hb4) | fail)
    refine (request_walk R s4 _ F4.out.st).mono ?_
    rintro e w5 ⟨v5, x5, s5, rfl, rfl, hg, hst, hrel⟩
    have R5 := hid hrel
    have G5 := hid (F4.out.call hg hst)
    clear hg hst hrel c0
    obtain ⟨X, hX⟩ : ∃ X : LE, X = { LE.base x1 x2 x3 x4 with req := x5 } := ⟨_, rfl⟩
    have hroot : X.root.length = 32 ∧ ∀ b ∈ X.root, b < 256 := hX ▸ z32_ok
    obtain ⟨V, hV⟩ : ∃ V : Value, V = leval X nilS nilS := ⟨_, rfl⟩
    have HT := hid (show TY Try.prog 111 (lecells X nilS nilS) V from hV ▸ tyLE rfl rfl hroot.1)
    have T5 := hid (tyReq x5)
    have HV := hid hV
    have HX := hid hX
    have HR := hid hroot
    clear hV hX hroot
    generalize valReq x5 = u5 at *
    go_wp2_with (first | (refine wpList_storeAt rfl 105 (.tmp 22) (.tmp 21) rfl rfl rfl T5.out G5.out.b1 (by rw [le_len0]; exact Nat.le_of_ble_eq_true rfl) ?_; intro W5 g5 hb5; have F5 := hid (G5.out.write g5 hb5 (C'' := lecells X nilS nilS) (by rw [HX.out]; rfl))) | (refine wpList_loadTY rfl 111 (.tmp 3) rfl rfl HT.out F5.out.b1 ?_) | (refine wpList_storeTYg rfl 111 (.tmp 2) (.tmp 46) rfl rfl rfl HT.out F5.out.b0 (by rw [lecells_len _ _ _ HR.out.1]; rfl) ?_; intro W9 g9 hb9) | fail)
    exact ret_cell rfl rfl HT.out hb9 rfl ⟨_, X, s5, rfl, ⟨nilS, nilS, HV.out, (HX.out ▸ repVers_nil _ _), (HX.out ▸ repSrcs_nil _ _), HR.out⟩, (F5.out.fing g9).1, (F5.out.fing g9).2, R1.out.bind (R2.out.bind (R3.out.bind (R4.out.bind (by unfold pLEt; rw [if_pos H1.out]; exact HX.out ▸ R5.out.bind (Rel.pure _ _)))))⟩
  have H1 := hid h1
  clear h1
  by_cases h2 : x1 = 2
  · have H2 := hid h2
    clear h2
    have b1 : (x1 == 1) = false := by simp; exact H1.out
    have b2 : (x1 == 2) = true := by rw [H2.out]; rfl
    go_wp2_with (first | (refine wpList_storeAt rfl 3 (.tmp 15) (.tmp 14) rfl rfl rfl (ty3 x4) G4.out.b1 (by rw [le_len0]; exact Nat.le_of_ble_eq_true rfl) ?_; intro W4 g4 hb4; have F4 := hid (G4.out.write g4 hb4 (C'' := lecells (LE.base x1 x2 x3 x4) nilS nilS) rfl); have c0 := F4.out.c 0 (v := .int .i64 x1) rfl; clear g4 hb4) | fail)
    refine (versions_walk R s4 _ F4.out.st).mono ?_
    rintro e w5 ⟨v5, x5, s5, rfl, hrep5, hg, hst, hrel⟩
    have R5 := hid hrel
    have P5 := hid (hrep5.down (L' := w.heap.size + 2) (by have := F4.out.size; omega))
    have hone5 := slice_one hrep5.1
    have T5 := hid (tyVersS hrep5.1)
    have G5 := hid (F4.out.call hg hst)
    have ON5 := hid hone5
    clear hg hst hrel c0 hrep5 hone5
    go_wp2_with (first | (refine wpList_storeAt rfl 42 (.tmp 27) (.tmp 26) rfl rfl rfl T5.out G5.out.b1 (by rw [le_len0]; exact Nat.le_of_ble_eq_true rfl) ?_; intro W5 g5 hb5) | fail)
    have F5 := hid (G5.out.write g5 hb5 (C'' := lecells { LE.base x1 x2 x3 x4 with vers := x5 } v5 nilS) rfl)
    have P5a := hid (P5.out.past g5 (by omega))
    clear g5 hb5
    refine (sources_walk R s5 _ F5.out.st).mono ?_
    rintro e w6 ⟨v6, x6, s6, rfl, hrep6, hg, hst, hrel⟩
    have R6 := hid hrel
    have P6 := hid (hrep6.down (L' := w.heap.size + 2) (by have := F5.out.size; omega))
    have P5b := hid (P5a.out.past hg (by omega))
    have T6 := hid (tySrcsS hrep6.1)
    have ON6 := hid (slice_one hrep6.1)
    have G6 := hid (F5.out.call hg hst)
    clear hg hst hrel hrep6
    obtain ⟨X, hX⟩ : ∃ X : LE, X = { LE.base x1 x2 x3 x4 with vers := x5, srcs := x6 } := ⟨_, rfl⟩
    have hroot : X.root.length = 32 ∧ ∀ b ∈ X.root, b < 256 := hX ▸ z32_ok
    obtain ⟨V, hV⟩ : ∃ V : Value, V = leval X v5 v6 := ⟨_, rfl⟩
    have HT := hid (show TY Try.prog 111 (lecells X v5 v6) V from hV ▸ tyLE ON5.out ON6.out hroot.1)
    have HV := hid hV
    have HX := hid hX
    have HR := hid hroot
    clear hV hX hroot
    go_wp2_with (first | (refine wpList_storeAt rfl 43 (.tmp 30) (.tmp 29) rfl rfl rfl T6.out G6.out.b1 (by rw [lecells_len _ _ _ z32_ok.1]; exact Nat.le_of_ble_eq_true rfl) ?_; intro W6 g6 hb6; have F6 := hid (G6.out.write g6 hb6 (C'' := lecells X v5 v6) (by rw [HX.out]; rfl))) | (refine wpList_loadTY rfl 111 (.tmp 3) rfl rfl HT.out F6.out.b1 ?_) | (refine wpList_storeTYg rfl 111 (.tmp 2) (.tmp 46) rfl rfl rfl HT.out F6.out.b0 (by rw [lecells_len _ _ _ HR.out.1]; rfl) ?_; intro W9 g9 hb9) | fail)
    exact ret_cell rfl rfl HT.out hb9 rfl ⟨_, X, s6, rfl, ⟨v5, v6, HV.out, (HX.out ▸ ((P5b.out.past g6 (by omega)).past g9 (by omega)).down (by omega)), (HX.out ▸ ((P6.out.past g6 (by omega)).past g9 (by omega)).down (by omega)), HR.out⟩, (F6.out.fing g9).1, (F6.out.fing g9).2, R1.out.bind (R2.out.bind (R3.out.bind (R4.out.bind (by unfold pLEt; rw [if_neg H1.out, if_pos H2.out]; exact HX.out ▸ R5.out.bind (R6.out.bind (Rel.pure _ _))))))⟩
  have H2 := hid h2
  clear h2
  by_cases h4 : x1 = 4
  · have H4 := hid h4
    clear h4
    have b1 : (x1 == 1) = false := by simp; exact H1.out
    have b2 : (x1 == 2) = false := by simp; exact H2.out
    have b4 : (x1 == 4) = true := by rw [H4.out]; rfl
    go_wp2_with (first | (refine wpList_storeAt rfl 3 (.tmp 15) (.tmp 14) rfl rfl rfl (ty3 x4) G4.out.b1 (by rw [le_len0]; exact Nat.le_of_ble_eq_true rfl) ?_; intro W4 g4 hb4; have F4 := hid (G4.out.write g4 hb4 (C'' := lecells (LE.base x1 x2 x3 x4) nilS nilS) rfl); have c0 := F4.out.c 0 (v := .int .i64 x1) rfl; clear g4 hb4) | fail)
    refine (digest_walk R s4 _ F4.out.st).mono ?_
    rintro e w5 ⟨v5, x5, s5, rfl, ⟨rfl, hd5⟩, hg, hst, hrel⟩
    have R5 := hid hrel
    have G5 := hid (F4.out.call hg hst)
    clear hg hst hrel c0
    obtain ⟨X, hX⟩ : ∃ X : LE, X = { LE.base x1 x2 x3 x4 with root := x5 } := ⟨_, rfl⟩
    have hroot : X.root.length = 32 ∧ ∀ b ∈ X.root, b < 256 := hX ▸ hd5
    obtain ⟨V, hV⟩ : ∃ V : Value, V = leval X nilS nilS := ⟨_, rfl⟩
    have HT := hid (show TY Try.prog 111 (lecells X nilS nilS) V from hV ▸ tyLE rfl rfl hroot.1)
    have T5 := hid (tyDig x5 hd5.1)
    have HV := hid hV
    have HX := hid hX
    have HR := hid hroot
    have HLEN := hid hd5.1
    clear hV hX hroot hd5
    go_wp2_with (first | (refine wpList_storeAt rfl 45 (.tmp 35) (.tmp 34) rfl rfl rfl T5.out G5.out.b1 (by rw [le_len0, bv_length, HLEN.out]; decide) ?_; intro W5 g5 hb5; have F5 := hid (G5.out.write g5 hb5 (C'' := lecells X nilS nilS) (by rw [HX.out]; exact le_setroot (LE.base x1 x2 x3 x4) nilS nilS x5 HLEN.out))) | (refine wpList_loadTY rfl 111 (.tmp 3) rfl rfl HT.out F5.out.b1 ?_) | (refine wpList_storeTYg rfl 111 (.tmp 2) (.tmp 46) rfl rfl rfl HT.out F5.out.b0 (by rw [lecells_len _ _ _ HR.out.1]; rfl) ?_; intro W9 g9 hb9) | fail)
    exact ret_cell rfl rfl HT.out hb9 rfl ⟨_, X, s5, rfl, ⟨nilS, nilS, HV.out, (HX.out ▸ repVers_nil _ _), (HX.out ▸ repSrcs_nil _ _), HR.out⟩, (F5.out.fing g9).1, (F5.out.fing g9).2, R1.out.bind (R2.out.bind (R3.out.bind (R4.out.bind (by unfold pLEt; rw [if_neg H1.out, if_neg H2.out, if_pos H4.out]; exact HX.out ▸ R5.out.bind (Rel.pure _ _)))))⟩
  have H4 := hid h4
  clear h4
  by_cases h6 : x1 = 6
  · have H6 := hid h6
    clear h6
    have b1 : (x1 == 1) = false := by simp; exact H1.out
    have b2 : (x1 == 2) = false := by simp; exact H2.out
    have b4 : (x1 == 4) = false := by simp; exact H4.out
    have b6 : (x1 == 6) = true := by rw [H6.out]; rfl
    go_wp2_with (first | (refine wpList_storeAt rfl 3 (.tmp 15) (.tmp 14) rfl rfl rfl (ty3 x4) G4.out.b1 (by rw [le_len0]; exact Nat.le_of_ble_eq_true rfl) ?_; intro W4 g4 hb4; have F4 := hid (G4.out.write g4 hb4 (C'' := lecells (LE.base x1 x2 x3 x4) nilS nilS) rfl); have c0 := F4.out.c 0 (v := .int .i64 x1) rfl; clear g4 hb4) | fail)
    refine (link_walk R s4 _ F4.out.st).mono ?_
    rintro e w5 ⟨v5, x5, s5, rfl, rfl, hg, hst, hrel⟩
    have R5 := hid hrel
    have G5 := hid (F4.out.call hg hst)
    clear hg hst hrel c0
    obtain ⟨X, hX⟩ : ∃ X : LE, X = { LE.base x1 x2 x3 x4 with lnk := x5 } := ⟨_, rfl⟩
    have hroot : X.root.length = 32 ∧ ∀ b ∈ X.root, b < 256 := hX ▸ z32_ok
    obtain ⟨V, hV⟩ : ∃ V : Value, V = leval X nilS nilS := ⟨_, rfl⟩
    have HT := hid (show TY Try.prog 111 (lecells X nilS nilS) V from hV ▸ tyLE rfl rfl hroot.1)
    have T5 := hid (tyLnk x5)
    have HV := hid hV
    have HX := hid hX
    have HR := hid hroot
    clear hV hX hroot
    generalize valLnk x5 = u5 at *
    go_wp2_with (first | (refine wpList_storeAt rfl 107 (.tmp 40) (.tmp 39) rfl rfl rfl T5.out G5.out.b1 (by rw [le_len0]; exact Nat.le_of_ble_eq_true rfl) ?_; intro W5 g5 hb5; have F5 := hid (G5.out.write g5 hb5 (C'' := lecells X nilS nilS) (by rw [HX.out]; rfl))) | (refine wpList_loadTY rfl 111 (.tmp 3) rfl rfl HT.out F5.out.b1 ?_) | (refine wpList_storeTYg rfl 111 (.tmp 2) (.tmp 46) rfl rfl rfl HT.out F5.out.b0 (by rw [lecells_len _ _ _ HR.out.1]; rfl) ?_; intro W9 g9 hb9) | fail)
    exact ret_cell rfl rfl HT.out hb9 rfl ⟨_, X, s5, rfl, ⟨nilS, nilS, HV.out, (HX.out ▸ repVers_nil _ _), (HX.out ▸ repSrcs_nil _ _), HR.out⟩, (F5.out.fing g9).1, (F5.out.fing g9).2, R1.out.bind (R2.out.bind (R3.out.bind (R4.out.bind (by unfold pLEt; rw [if_neg H1.out, if_neg H2.out, if_neg H4.out, if_pos H6.out]; exact HX.out ▸ R5.out.bind (Rel.pure _ _)))))⟩
  have H6 := hid h6
  clear h6
  by_cases h7 : x1 = 7
  · have H7 := hid h7
    clear h7
    have b1 : (x1 == 1) = false := by simp; exact H1.out
    have b2 : (x1 == 2) = false := by simp; exact H2.out
    have b4 : (x1 == 4) = false := by simp; exact H4.out
    have b6 : (x1 == 6) = false := by simp; exact H6.out
    have b7 : (x1 == 7) = true := by rw [H7.out]; rfl
    go_wp2_with (first | (refine wpList_storeAt rfl 3 (.tmp 15) (.tmp 14) rfl rfl rfl (ty3 x4) G4.out.b1 (by rw [le_len0]; exact Nat.le_of_ble_eq_true rfl) ?_; intro W4 g4 hb4; have F4 := hid (G4.out.write g4 hb4 (C'' := lecells (LE.base x1 x2 x3 x4) nilS nilS) rfl); have c0 := F4.out.c 0 (v := .int .i64 x1) rfl; clear g4 hb4) | fail)
    refine (hold_walk R s4 _ F4.out.st).mono ?_
    rintro e w5 ⟨v5, x5, s5, rfl, rfl, hg, hst, hrel⟩
    have R5 := hid hrel
    have G5 := hid (F4.out.call hg hst)
    clear hg hst hrel c0
    obtain ⟨X, hX⟩ : ∃ X : LE, X = { LE.base x1 x2 x3 x4 with hld := x5 } := ⟨_, rfl⟩
    have hroot : X.root.length = 32 ∧ ∀ b ∈ X.root, b < 256 := hX ▸ z32_ok
    obtain ⟨V, hV⟩ : ∃ V : Value, V = leval X nilS nilS := ⟨_, rfl⟩
    have HT := hid (show TY Try.prog 111 (lecells X nilS nilS) V from hV ▸ tyLE rfl rfl hroot.1)
    have T5 := hid (tyHld x5)
    have HV := hid hV
    have HX := hid hX
    have HR := hid hroot
    clear hV hX hroot
    generalize valHld x5 = u5 at *
    go_wp2_with (first | (refine wpList_storeAt rfl 109 (.tmp 45) (.tmp 44) rfl rfl rfl T5.out G5.out.b1 (by rw [le_len0]; exact Nat.le_of_ble_eq_true rfl) ?_; intro W5 g5 hb5; have F5 := hid (G5.out.write g5 hb5 (C'' := lecells X nilS nilS) (by rw [HX.out]; rfl))) | (refine wpList_loadTY rfl 111 (.tmp 3) rfl rfl HT.out F5.out.b1 ?_) | (refine wpList_storeTYg rfl 111 (.tmp 2) (.tmp 46) rfl rfl rfl HT.out F5.out.b0 (by rw [lecells_len _ _ _ HR.out.1]; rfl) ?_; intro W9 g9 hb9) | fail)
    exact ret_cell rfl rfl HT.out hb9 rfl ⟨_, X, s5, rfl, ⟨nilS, nilS, HV.out, (HX.out ▸ repVers_nil _ _), (HX.out ▸ repSrcs_nil _ _), HR.out⟩, (F5.out.fing g9).1, (F5.out.fing g9).2, R1.out.bind (R2.out.bind (R3.out.bind (R4.out.bind (by unfold pLEt; rw [if_neg H1.out, if_neg H2.out, if_neg H4.out, if_neg H6.out, if_pos H7.out]; exact HX.out ▸ R5.out.bind (Rel.pure _ _)))))⟩
  have H7 := hid h7
  clear h7
  · have b1 : (x1 == 1) = false := by simp; exact H1.out
    have b2 : (x1 == 2) = false := by simp; exact H2.out
    have b4 : (x1 == 4) = false := by simp; exact H4.out
    have b6 : (x1 == 6) = false := by simp; exact H6.out
    have b7 : (x1 == 7) = false := by simp; exact H7.out
    obtain ⟨V, hV⟩ : ∃ V : Value, V = leval (LE.base x1 x2 x3 x4) nilS nilS := ⟨_, rfl⟩
    have HT := hid (show TY Try.prog 111 (lecells (LE.base x1 x2 x3 x4) nilS nilS) V from hV ▸ tyLE rfl rfl z32_ok.1)
    have HV := hid hV
    clear hV
    go_wp2_with (first | (refine wpList_storeAt rfl 3 (.tmp 15) (.tmp 14) rfl rfl rfl (ty3 x4) G4.out.b1 (by rw [le_len0]; exact Nat.le_of_ble_eq_true rfl) ?_; intro W4 g4 hb4; have F4 := hid (G4.out.write g4 hb4 (C'' := lecells (LE.base x1 x2 x3 x4) nilS nilS) rfl); have c0 := F4.out.c 0 (v := .int .i64 x1) rfl; clear g4 hb4) | (refine wpList_loadTY rfl 111 (.tmp 3) rfl rfl HT.out F4.out.b1 ?_) | (refine wpList_storeTYg rfl 111 (.tmp 2) (.tmp 46) rfl rfl rfl HT.out F4.out.b0 (by rw [lecells_len _ _ _ z32_ok.1]; rfl) ?_; intro W9 g9 hb9) | fail)
    exact ret_cell rfl rfl HT.out hb9 rfl ⟨_, LE.base x1 x2 x3 x4, s4, rfl, ⟨nilS, nilS, HV.out, (repVers_nil _ _), (repSrcs_nil _ _), z32_ok⟩, (F4.out.fing g9).1, (F4.out.fing g9).2, R1.out.bind (R2.out.bind (R3.out.bind (R4.out.bind (by unfold pLEt; rw [if_neg H1.out, if_neg H2.out, if_neg H4.out, if_neg H6.out, if_neg H7.out]; exact Rel.pure _ _))))⟩
end Go.Proofs.Ytkeiffccllfkpaa
