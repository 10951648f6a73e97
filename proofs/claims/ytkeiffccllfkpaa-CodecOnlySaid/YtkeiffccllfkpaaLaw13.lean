/- The law CodecCuts walked. -/
import Derived.Test.YtkeiffccllfkpaaN20
import Derived.Test.YtkeiffccllfkpaaN21
import Derived.Test.YtkeiffccllfkpaaN24
import Derived.Test.YtkeiffccllfkpaaByt
namespace Go.Proofs.Ytkeiffccllfkpaa
open Go.RowKit
set_option linter.unusedSimpArgs false

theorem encLE_pos (x : LE) : 0 < (encLE x).length := by
  unfold encLE
  have := enc_pos x.kind
  simp only [List.length_append]
  omega
theorem encLE_byte (x : LE) (hw : x.wf) : ∀ b ∈ encLE x, b < 256 := app_byte (enc_byte _) (app_byte (enc_byte _) (app_byte (enc_byte _) (app_byte (enc_byte _) (by
  unfold encLEt
  split
  · exact encReq_byt _
  split
  · exact app_byte (encVers_byte _) (encSrcs_byte _)
  split
  · exact hw.root.2
  split
  · exact encLnk_byt _
  split
  · exact encHld_byt _
  · intro b hb
    cases hb))))
theorem encLE_len (x : LE) (hw : x.wf) (h : x.sm) : (encLE x).length ≤ 1099511627776 := by
  have k1 := enc_len hw.kind.1 hw.kind.2
  have k2 := enc_len hw.day.1 hw.day.2
  have k3 := enc_len hw.plan.1 hw.plan.2
  have k4 := enc_len hw.step.1 hw.step.2
  have t : (encLEt x).length ≤ 10000000 := by
    have h1 := h.req
    have h2 := h.lnka
    have h3 := h.lnkb
    have h4 := h.hld
    have h5 := h.vers
    have h6 := h.srcs
    unfold encLEt
    split
    · have := encReq_len x.req hw.req (by omega)
      omega
    split
    · have := encVers_len hw.vers (by omega)
      have := encSrcs_len hw.srcs (by omega)
      rw [List.length_append]
      omega
    split
    · rw [hw.root.1]
      omega
    split
    · have := encLnk_len x.lnk hw.lnk ⟨by omega, by omega⟩
      omega
    split
    · have := encHld_len x.hld hw.hld (by omega)
      omega
    · simp
  unfold encLE
  simp only [List.length_append]
  omega
theorem leval_z : leval (LE.base 0 0 0 0) nilS nilS = .agg Try.zeroCells111 := congrArg Value.agg leZ_arr
theorem zeros_same (w : World) : Calls Try.prog 62 #[.agg Try.zeroCells111, .agg Try.zeroCells111] w fun en w' => en = .returned (.bool true) ∧ w.grownBy w' none := by
  have := sameEntry_walk (LE.base 0 0 0 0) nilS nilS nilS nilS w (Sl.nil _ _) (Sl.nil _ _) (Sl.nil _ _) (Sl.nil _ _) z32_ok.1
  rw [leval_z] at this
  exact this
theorem Sl.take2 {w : World} {ao : Option Addr} {cap k : Nat} {l : List Nat} (h : Sl w 1 (.slice ao l.length cap) l.length (bv l)) (hk : k ≤ l.length) :
    Sl w 1 (.slice ao k cap) (l.take k).length (bv (l.take k)) := by
  obtain ⟨hl, ao', cap', hv, h1, h2, h3, h4⟩ := h
  simp only [Value.slice.injEq] at hv
  obtain ⟨rfl, _, rfl⟩ := hv
  have e : (l.take k).length = k := by simp; omega
  rw [e]
  refine ⟨by rw [bv_length, e]; omega, ao, cap, rfl, by omega, h2, h3, fun a ha => ⟨(h4 a ha).1, fun j u hu => (h4 a ha).2 j u ?_⟩⟩
  have hj := (List.getElem?_eq_some_iff.1 hu).1
  rw [bv_length, e] at hj
  rw [← hu]
  simp [bv, List.getElem?_take]
  intro hjj; omega
set_option maxRecDepth 100000 in
set_option maxHeartbeats 4000000 in
theorem codecCuts_walk (x : LE) (v s : Value) (cut : Int) (w : World) (hv : Sl w 3 v x.vers.length (x.vers.flatMap vercells) ∧ Lo v w.heap.size) (hs : Sl w 2 s x.srcs.length (x.srcs.flatMap srccells) ∧ Lo s w.heap.size) (hw : x.wf) (hcut : I64 cut) :
    Calls Try.prog 13 #[leval x v s, .int .i64 cut] w fun en w' => en = .returned (.bool true) ∧ w.grownBy w' none := by
  have hT := tyLE (e := x) (slice_one hv.1) (slice_one hs.1) hw.root.1
  obtain ⟨V, hV⟩ : ∃ V, V = leval x v s := ⟨_, rfl⟩
  rw [← hV] at hT
  obtain ⟨C, hC⟩ : ∃ C, C = lecells x v s := ⟨_, rfl⟩
  have hVC : leval x v s = .agg C.toArray := by rw [hC]; rfl
  rw [← hC] at hT
  have h0 : C[0]? = some (.int .i64 x.kind) := by rw [hC]; rfl
  have hb := heap_at (w := w) (o := .cells C.toArray 111) rfl
  have ga := World.grownBy_alloc w (.cells C.toArray 111) none
  have HV := hid (And.intro (hv.1.kn ga) (hv.2.mono (R' := (w.alloc (.cells C.toArray 111)).heap.size) (by simp)))
  have HS := hid (And.intro (hs.1.kn ga) (hs.2.mono (R' := (w.alloc (.cells C.toArray 111)).heap.size) (by simp)))
  have FW := hid (hV ▸ fits_walk x v s (w.alloc (.cells C.toArray 111)) (hv.1.kn ga) (hs.1.kn ga))
  have HT := hid hT
  have HB := hid hb
  have GA := hid ga
  have HW := hid hw
  have HC0 := hid h0
  have HVV := hid hV
  have HCUT := hid hcut
  rw [hVC]
  clear hv hs hw hT hb ga h0 hV hC hVC hcut
  go_enter Try.func13, Try.ntmps13
  go_wp2_with (first | (refine wpList_loadTY rfl 111 (.tmp 2) rfl rfl HT.out HB.out ?_) | fail)
  refine FW.out.mono ?_
  rintro en w1 (⟨rfl, g1⟩ | ⟨rfl, hsm, g1⟩)
  · go_wp2_with (go_at_call 18; refine (awake_walk _).mono ?_; rintro e w' ⟨rfl, hg⟩)
    go_ret
    exact ⟨rfl, grown_trans (grown_trans GA.out g1) hg⟩
  have G1 := hid (grown_trans GA.out g1)
  have hb1 := row_of g1 HB.out (by simp)
  have HV1 := hid (And.intro (HV.out.1.kn g1) (HV.out.2.mono g1.size))
  have HS1 := hid (And.intro (HS.out.1.kn g1) (HS.out.2.mono g1.size))
  have HB1 := hid hb1
  have HSM := hid hsm
  have c0 : w1.cell? ⟨w.heap.size, 0, none⟩ = some (.int .i64 x.kind) := by rw [cell_of_row _ _ _ _ _ _ hb1]; simpa using HC0.out
  clear g1 hsm hb1
  by_cases h1 : x.kind < 1
  · have d1 : decide (x.kind < 1) = true := decide_eq_true h1
    clear h1
    go_wp2_with (go_at_call 18; refine (awake_walk _).mono ?_; rintro e w' ⟨rfl, hg⟩)
    go_ret
    exact ⟨rfl, grown_trans G1.out hg⟩
  have d1 : decide (x.kind < 1) = false := decide_eq_false h1
  have H1 := hid h1
  clear h1
  by_cases h7 : 7 < x.kind
  · have d7 : decide (7 < x.kind) = true := decide_eq_true h7
    clear h7
    go_wp2_with (go_at_call 18; refine (awake_walk _).mono ?_; rintro e w' ⟨rfl, hg⟩)
    go_ret
    exact ⟨rfl, grown_trans G1.out hg⟩
  have d7 : decide (7 < x.kind) = false := decide_eq_false h7
  have H7 := hid h7
  clear h7
  by_cases hc : cut < 0
  · have dc : decide (cut < 0) = true := decide_eq_true hc
    clear hc
    go_wp2_with (go_at_call 18; refine (awake_walk _).mono ?_; rintro e w' ⟨rfl, hg⟩)
    go_ret
    exact ⟨rfl, grown_trans G1.out hg⟩
  have dc : decide (cut < 0) = false := decide_eq_false hc
  have HC := hid hc
  clear hc
  go_wp2_with (first | (refine wpList_loadTY rfl 111 (.tmp 2) rfl rfl HT.out HB1.out ?_) | fail)
  rw [HVV.out]
  refine (refEntry_walk v s x w1 HV1.out HS1.out HW.out ⟨by have := HSM.out.req; omega, ⟨by have := HSM.out.lnka; omega, by have := HSM.out.lnkb; omega⟩, by have := HSM.out.hld; omega, by have := HSM.out.vers; omega, by have := HSM.out.srcs; omega⟩).mono ?_
  rintro en w2 ⟨u, rfl, hown, hf⟩
  have hcd := cd_LE x HW.out HSM.out.fits (by have := H1.out; omega) (by have := H7.out; omega)
  have hlp := encLE_pos x
  have hL := encLE_len x HW.out HSM.out
  have hby := encLE_byte x HW.out
  obtain ⟨ao, cap, rfl, hnc, hcm⟩ := (Sl.of_own hown).shape
  have SO := hid (Sl.of_own hown)
  have LO := hid (show Lo (.slice ao (encLE x).length cap) w2.heap.size from fun k hk => Own.lt hown k hk)
  have G2 := hid (grown_trans G1.out (Step.none hf))
  have CD := hid hcd
  have BY := hid hby
  have HL := hid hL
  have LP := hid hlp
  have FI := hid hf.1
  generalize encLE x = E at *
  have hne : E.length ≠ 0 := by omega
  clear hcd hL hby hlp hown hf c0 d1 d7 dc
  obtain ⟨k, rfl⟩ : ∃ k : Nat, cut = k := ⟨cut.toNat, by have := HC.out; omega⟩
  obtain ⟨r, hr⟩ : ∃ r : Nat, r = k % E.length := ⟨_, rfl⟩
  have hrl : r < E.length := by rw [hr]; exact Nat.mod_lt _ LP.out
  have tm : (k : Int) % (E.length : Int) = (r : Int) := by rw [hr]; rfl
  have HR := hid hrl
  have hrc : r ≤ cap := by have := hnc; omega
  have hc0 : cap ≠ 0 := by have := hnc; omega
  obtain ⟨b, off, rfl, _⟩ := SO.out.at 0 (by rw [bv_length]; exact LP.out)
  have TK := hid (SO.out.take2 (k := r) (by omega))
  have RL := hid (show E.take r ++ E.drop r = E from List.take_append_drop r E)
  have ND := hid (show E.drop r ≠ [] from fun h => by have := List.drop_eq_nil_iff.1 h; omega)
  clear hr hnc hcm hrl
  have hne2 : E ≠ [] := fun h => by rw [h] at hne; exact hne rfl
  have hne3 : ¬ ((E.length : Int) = 0) := by omega
  have hca : ¬ ((cap : Int) = 0) := by omega
  go_wp2_with fail
  all_goals first | (exfalso; omega) | (exfalso; rename_i hq; exact hne2 hq) | skip
  have hp := CD.out.cut _ _ RL.out.symm ND.out
  have hx := rdxEntry_walk (.slice (some ⟨b, off, none⟩) r cap) (E.take r) w2 TK.out (by have := HL.out; rw [List.length_take]; omega) (fun y hy => BY.out y (List.mem_of_mem_take hy)) (fun k hk => LO.out k hk)
  refine hx.mono ?_
  intro en w3 h3
  unfold ReadPost at h3
  rw [hp] at h3
  obtain ⟨g3, rfl, _⟩ := h3
  have G3 := hid (grown_trans G2.out g3)
  clear hx hp g3
  obtain ⟨Z, hZ⟩ : ∃ Z : Value, Z = .agg Try.zeroCells111 := ⟨_, rfl⟩
  rw [← hZ]
  have TZ := hid (show TY Try.prog 111 leZ Z from hZ ▸ ztyLE)
  have HZ := hid hZ
  clear hZ
  go_wp2_with (first | (refine wpList_storeTYg rfl 111 (.tmp 6) (.tmp 37) rfl rfl rfl TZ.out (heap_at rfl) (by rw [leZ_len]; rfl) ?_; intro w4 g4 hb4; have HB4 := hid hb4; have G4 := hid (grown_newR (World.grownBy_alloc w3 _ none) g4 (Nat.le_refl _)); clear g4 hb4) | (refine wpList_loadG rfl 111 (.tmp 6) rfl rfl TZ.out (rangeAt_row HB4.out) ?_) | fail)
  rw [HZ.out]
  refine (zeros_same _).mono ?_
  rintro en w5 ⟨rfl, g5⟩
  have G5 := hid (grown_trans (grown_trans G3.out G4.out) g5)
  clear g5
  unfold nilS
  go_wp2_with (go_at_call 18; refine (awake_walk _).mono ?_; rintro e w' ⟨rfl, hg⟩)
  go_ret
  exact ⟨rfl, grown_trans G5.out hg⟩
end Go.Proofs.Ytkeiffccllfkpaa
