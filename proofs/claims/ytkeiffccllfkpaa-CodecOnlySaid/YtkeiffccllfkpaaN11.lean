/- The exported appenders of structs and bags. -/
import Derived.Test.YtkeiffccllfkpaaN10
namespace Go.Proofs.Ytkeiffccllfkpaa
open Go.RowKit
set_option linter.unusedSimpArgs false

set_option maxRecDepth 100000 in
theorem recAIdentifier_walk (w : World) : CallsD Try.prog 154 #[] .returning w fun e u' w' => e = .returned (.tuple #[]) ∧ u' = .returning ∧ w' = w := by
  refine callsD_of_wpS Try.func154 rfl fun c₀ cs hu => ?_
  apply wpS_region
  simp [wpOpsS, go_sem, recoverD, hu, Try.ntmps154]
  cases c₀
  simp_all [bodyPostS, results, Try.results154]
set_option maxRecDepth 100000 in
theorem appendIdentifier_walk (v : Value) (x : Idf) (xs : List Nat) (w : World) (hv : Sl w 1 v xs.length (bv xs)) (hvb : Lo v w.heap.size) (hl : x.ns.size ≤ 1000000) (hlx : xs.length + 2000000 ≤ 1099511627776) :
    Calls Try.prog 74 #[v, valIdf x] w fun e w' => ∃ v', e = .returned v' ∧ Own w' 5 1 v' (xs ++ encIdf x).length (bv (xs ++ encIdf x)) ∧ Fresh w w' v' := by
  have hep : 0 < (encIdf x).length := by unfold encIdf; have := encT_pos x.ns; simp only [List.length_append]; omega
  have hel := encIdf_len x (by omega)
  show Calls Try.prog 74 #[v, .agg #[.string x.ns, .int .i64 x.val.kind, .int .i64 x.val.int, .string x.val.text]] w _
  go_enter_defers Try.func74, Try.ntmps74
  go_wp2_with fail
  have ga := World.grownBy_alloc w (.cells #[.string x.ns, .int .i64 x.val.kind, .int .i64 x.val.int, .string x.val.text] 103) none
  refine (identifier_app nilS x [] _ (Own.nil _ _ _) (by simp; omega)).mono ?_
  rintro e w1 ⟨v1, rfl, hown1, hg1⟩
  rw [List.nil_append] at hown1
  have g01 := grown_trans ga (Step.none hg1)
  have hv1 := hv.below (none_below g01) hvb
  go_wp2_with fail
  refine (extend_walk v v1 xs (encIdf x) _ hv1 (Sl.of_own hown1) hep (by omega)).mono ?_
  rintro e w2 ⟨v2, rfl, hown2, hg2⟩
  go_wp2
  refine leaves_cons (f := 154) (args := #[]) (by simp) (by simp [go_sem]) ?_
  refine (recAIdentifier_walk _).mono ?_
  rintro e u' w'' ⟨rfl, rfl, rfl⟩
  exact ⟨v2, results_tmp (t := 4) rfl _ _ _, _, rfl, hown2, Step.grown g01 hg2⟩
theorem encLnk_len (x : Lnk) (hw : I64 x.seq) (hl : x.a.ns.size ≤ 1000000 ∧ x.b.ns.size ≤ 1000000) : (encLnk x).length ≤ 3000000 := by
  have h1 := encIdf_len x.a (by omega)
  have h2 := encIdf_len x.b (by omega)
  have h3 := enc_len hw.1 hw.2
  have h4 := enc_len (n := b01 x.rev) (by unfold b01; split <;> omega) (by unfold b01; split <;> omega)
  unfold encLnk
  simp only [List.length_append]; omega
theorem encHld_len (x : Hld) (hw : x.wf) (hl : x.who.ns.size ≤ 1000000) : (encHld x).length ≤ 3000000 := by
  obtain ⟨h1, h2, h3, h4, h5⟩ := hw
  have h1 := enc_len h1.1 h1.2
  have h2 := enc_len h2.1 h2.2
  have h3 := enc_len h3.1 h3.2
  have h4 := enc_len h4.1 h4.2
  have h5 := enc_len h5.1 h5.2
  have h6 := encIdf_len x.who (by omega)
  unfold encHld
  simp only [List.length_append]; omega
theorem encReq_len (x : Req) (hw : x.wf) (hl : x.who.ns.size ≤ 1000000) : (encReq x).length ≤ 3000000 := by
  obtain ⟨h1, h2, h3, h4⟩ := hw
  have h1 := enc_len h1.1 h1.2
  have h2 := enc_len h2.1 h2.2
  have h3 := enc_len h3.1 h3.2
  have h4 := enc_len h4.1 h4.2
  have h6 := encIdf_len x.who (by omega)
  unfold encReq
  simp only [List.length_append]; omega
set_option maxRecDepth 100000 in
theorem recALink_walk (w : World) : CallsD Try.prog 141 #[] .returning w fun e u' w' => e = .returned (.tuple #[]) ∧ u' = .returning ∧ w' = w := by
  refine callsD_of_wpS Try.func141 rfl fun c₀ cs hu => ?_
  apply wpS_region
  simp [wpOpsS, go_sem, recoverD, hu, Try.ntmps141]
  cases c₀
  simp_all [bodyPostS, results, Try.results141]
set_option maxRecDepth 100000 in
theorem appendLink_walk (v : Value) (x : Lnk) (xs : List Nat) (w : World) (hv : Sl w 1 v xs.length (bv xs)) (hvb : Lo v w.heap.size) (hw : I64 x.seq) (hl : x.a.ns.size ≤ 1000000 ∧ x.b.ns.size ≤ 1000000) (hlx : xs.length + 4000000 ≤ 1099511627776) :
    Calls Try.prog 65 #[v, valLnk x] w fun e w' => ∃ v', e = .returned v' ∧ Own w' 5 1 v' (xs ++ encLnk x).length (bv (xs ++ encLnk x)) ∧ Fresh w w' v' := by
  have hep : 0 < (encLnk x).length := by unfold encLnk; have := enc_pos x.seq; simp only [List.length_append]; omega
  have hel := encLnk_len x hw hl
  show Calls Try.prog 65 #[v, .agg #[.string x.a.ns, .int .i64 x.a.val.kind, .int .i64 x.a.val.int, .string x.a.val.text, .string x.b.ns, .int .i64 x.b.val.kind, .int .i64 x.b.val.int, .string x.b.val.text, .int .i64 x.seq, .bool x.rev]] w _
  go_enter_defers Try.func65, Try.ntmps65
  go_wp2_with fail
  have ga := World.grownBy_alloc w (.cells #[.string x.a.ns, .int .i64 x.a.val.kind, .int .i64 x.a.val.int, .string x.a.val.text, .string x.b.ns, .int .i64 x.b.val.kind, .int .i64 x.b.val.int, .string x.b.val.text, .int .i64 x.seq, .bool x.rev] 107) none
  refine (link_app nilS x [] _ (Own.nil _ _ _) hw (by simp; omega)).mono ?_
  rintro e w1 ⟨v1, rfl, hown1, hg1⟩
  rw [List.nil_append] at hown1
  have g01 := grown_trans ga (Step.none hg1)
  have hv1 := hv.below (none_below g01) hvb
  go_wp2_with fail
  refine (extend_walk v v1 xs (encLnk x) _ hv1 (Sl.of_own hown1) hep (by omega)).mono ?_
  rintro e w2 ⟨v2, rfl, hown2, hg2⟩
  go_wp2
  refine leaves_cons (f := 141) (args := #[]) (by simp) (by simp [go_sem]) ?_
  refine (recALink_walk _).mono ?_
  rintro e u' w'' ⟨rfl, rfl, rfl⟩
  exact ⟨v2, results_tmp (t := 4) rfl _ _ _, _, rfl, hown2, Step.grown g01 hg2⟩
set_option maxRecDepth 100000 in
theorem recAHold_walk (w : World) : CallsD Try.prog 143 #[] .returning w fun e u' w' => e = .returned (.tuple #[]) ∧ u' = .returning ∧ w' = w := by
  refine callsD_of_wpS Try.func143 rfl fun c₀ cs hu => ?_
  apply wpS_region
  simp [wpOpsS, go_sem, recoverD, hu, Try.ntmps143]
  cases c₀
  simp_all [bodyPostS, results, Try.results143]
set_option maxRecDepth 100000 in
theorem appendHold_walk (v : Value) (x : Hld) (xs : List Nat) (w : World) (hv : Sl w 1 v xs.length (bv xs)) (hvb : Lo v w.heap.size) (hw : x.wf) (hl : x.who.ns.size ≤ 1000000) (hlx : xs.length + 4000000 ≤ 1099511627776) :
    Calls Try.prog 66 #[v, valHld x] w fun e w' => ∃ v', e = .returned v' ∧ Own w' 5 1 v' (xs ++ encHld x).length (bv (xs ++ encHld x)) ∧ Fresh w w' v' := by
  have hep : 0 < (encHld x).length := by unfold encHld; have := enc_pos x.seq; simp only [List.length_append]; omega
  have hel := encHld_len x hw hl
  show Calls Try.prog 66 #[v, .agg #[.int .i64 x.table, .int .i64 x.column, .string x.who.ns, .int .i64 x.who.val.kind, .int .i64 x.who.val.int, .string x.who.val.text, .int .i64 x.seq, .int .i64 x.since, .int .i64 x.till]] w _
  go_enter_defers Try.func66, Try.ntmps66
  go_wp2_with fail
  have ga := World.grownBy_alloc w (.cells #[.int .i64 x.table, .int .i64 x.column, .string x.who.ns, .int .i64 x.who.val.kind, .int .i64 x.who.val.int, .string x.who.val.text, .int .i64 x.seq, .int .i64 x.since, .int .i64 x.till] 109) none
  refine (hold_app nilS x [] _ (Own.nil _ _ _) hw (by simp; omega)).mono ?_
  rintro e w1 ⟨v1, rfl, hown1, hg1⟩
  rw [List.nil_append] at hown1
  have g01 := grown_trans ga (Step.none hg1)
  have hv1 := hv.below (none_below g01) hvb
  go_wp2_with fail
  refine (extend_walk v v1 xs (encHld x) _ hv1 (Sl.of_own hown1) hep (by omega)).mono ?_
  rintro e w2 ⟨v2, rfl, hown2, hg2⟩
  go_wp2
  refine leaves_cons (f := 143) (args := #[]) (by simp) (by simp [go_sem]) ?_
  refine (recAHold_walk _).mono ?_
  rintro e u' w'' ⟨rfl, rfl, rfl⟩
  exact ⟨v2, results_tmp (t := 4) rfl _ _ _, _, rfl, hown2, Step.grown g01 hg2⟩
set_option maxRecDepth 100000 in
theorem recARequest_walk (w : World) : CallsD Try.prog 139 #[] .returning w fun e u' w' => e = .returned (.tuple #[]) ∧ u' = .returning ∧ w' = w := by
  refine callsD_of_wpS Try.func139 rfl fun c₀ cs hu => ?_
  apply wpS_region
  simp [wpOpsS, go_sem, recoverD, hu, Try.ntmps139]
  cases c₀
  simp_all [bodyPostS, results, Try.results139]
set_option maxRecDepth 100000 in
theorem appendRequest_walk (v : Value) (x : Req) (xs : List Nat) (w : World) (hv : Sl w 1 v xs.length (bv xs)) (hvb : Lo v w.heap.size) (hw : x.wf) (hl : x.who.ns.size ≤ 1000000) (hlx : xs.length + 4000000 ≤ 1099511627776) :
    Calls Try.prog 64 #[v, valReq x] w fun e w' => ∃ v', e = .returned v' ∧ Own w' 5 1 v' (xs ++ encReq x).length (bv (xs ++ encReq x)) ∧ Fresh w w' v' := by
  have hep : 0 < (encReq x).length := by unfold encReq; have := enc_pos x.seq; simp only [List.length_append]; omega
  have hel := encReq_len x hw hl
  show Calls Try.prog 64 #[v, .agg #[.int .i64 x.kind, .string x.who.ns, .int .i64 x.who.val.kind, .int .i64 x.who.val.int, .string x.who.val.text, .int .i64 x.seq, .int .i64 x.day, .int .i64 x.deadline]] w _
  go_enter_defers Try.func64, Try.ntmps64
  go_wp2_with fail
  have ga := World.grownBy_alloc w (.cells #[.int .i64 x.kind, .string x.who.ns, .int .i64 x.who.val.kind, .int .i64 x.who.val.int, .string x.who.val.text, .int .i64 x.seq, .int .i64 x.day, .int .i64 x.deadline] 105) none
  refine (request_app nilS x [] _ (Own.nil _ _ _) hw (by simp; omega)).mono ?_
  rintro e w1 ⟨v1, rfl, hown1, hg1⟩
  rw [List.nil_append] at hown1
  have g01 := grown_trans ga (Step.none hg1)
  have hv1 := hv.below (none_below g01) hvb
  go_wp2_with fail
  refine (extend_walk v v1 xs (encReq x) _ hv1 (Sl.of_own hown1) hep (by omega)).mono ?_
  rintro e w2 ⟨v2, rfl, hown2, hg2⟩
  go_wp2
  refine leaves_cons (f := 139) (args := #[]) (by simp) (by simp [go_sem]) ?_
  refine (recARequest_walk _).mono ?_
  rintro e u' w'' ⟨rfl, rfl, rfl⟩
  exact ⟨v2, results_tmp (t := 4) rfl _ _ _, _, rfl, hown2, Step.grown g01 hg2⟩
set_option maxRecDepth 100000 in
theorem recAChange_walk (w : World) : CallsD Try.prog 127 #[] .returning w fun e u' w' => e = .returned (.tuple #[]) ∧ u' = .returning ∧ w' = w := by
  refine callsD_of_wpS Try.func127 rfl fun c₀ cs hu => ?_
  apply wpS_region
  simp [wpOpsS, go_sem, recoverD, hu, Try.ntmps127]
  cases c₀
  simp_all [bodyPostS, results, Try.results127]
set_option maxRecDepth 100000 in
theorem appendChange_walk (v : Value) (r : Value) (x : Ch) (xs : List Nat) (w : World) (hv : Sl w 1 v xs.length (bv xs)) (hvb : Lo v w.heap.size) (hr : DRow w.heap.size w r x.row) (hw : x.wf) (hrl : x.row.length ≤ 1000) (hlx : xs.length + 300000 ≤ 1099511627776) :
    Calls Try.prog 51 #[v, valCh x r] w fun e w' => ∃ v', e = .returned v' ∧ Own w' 5 1 v' (xs ++ encCh x).length (bv (xs ++ encCh x)) ∧ Fresh w w' v' := by
  have hep : 0 < (encCh x).length := by unfold encCh; have := enc_pos x.seq; simp only [List.length_append]; omega
  have hel := encCh_len x hrl hw
  obtain ⟨ao, cap, hrv, hnc, hcm⟩ := hr.1.shape
  subst hrv
  have HR := hid hr
  clear hr
  show Calls Try.prog 51 #[v, .agg #[.int .i64 x.kind, .int .i64 x.seq, .int .i64 x.day, .int .i64 x.table, .slice ao x.row.length cap, .int .i64 x.key.kind, .int .i64 x.key.int, .string x.key.text, .int .i64 x.col, .int .i64 x.val.kind, .int .i64 x.val.int, .string x.val.text]] w _
  go_enter_defers Try.func51, Try.ntmps51
  go_wp2_with fail
  have ga := World.grownBy_alloc w (.cells #[.int .i64 x.kind, .int .i64 x.seq, .int .i64 x.day, .int .i64 x.table, .slice ao x.row.length cap, .int .i64 x.key.kind, .int .i64 x.key.int, .string x.key.text, .int .i64 x.col, .int .i64 x.val.kind, .int .i64 x.val.int, .string x.val.text] 86) none
  refine (change_app nilS _ x [] _ w.heap.size (Own.nil _ _ _) (fun k hk => by simp [Value.ownBlock] at hk) (HR.out.grown ga) ga.size hw hrl (by simp)).mono ?_
  rintro e w1 ⟨v1, rfl, hown1, hg1⟩
  rw [List.nil_append] at hown1
  have g01 := grown_trans ga (Step.none hg1)
  have hv1 := hv.below (none_below g01) hvb
  go_wp2_with fail
  refine (extend_walk v v1 xs (encCh x) _ hv1 (Sl.of_own hown1) hep (by omega)).mono ?_
  rintro e w2 ⟨v2, rfl, hown2, hg2⟩
  go_wp2
  refine leaves_cons (f := 127) (args := #[]) (by simp) (by simp [go_sem]) ?_
  refine (recAChange_walk _).mono ?_
  rintro e u' w'' ⟨rfl, rfl, rfl⟩
  exact ⟨v2, results_tmp (t := 4) rfl _ _ _, _, rfl, hown2, Step.grown g01 hg2⟩
set_option maxRecDepth 100000 in
theorem recABag_walk (w : World) : CallsD Try.prog 122 #[] .returning w fun e u' w' => e = .returned (.tuple #[]) ∧ u' = .returning ∧ w' = w := by
  refine callsD_of_wpS Try.func122 rfl fun c₀ cs hu => ?_
  apply wpS_region
  simp [wpOpsS, go_sem, recoverD, hu, Try.ntmps122]
  cases c₀
  simp_all [bodyPostS, results, Try.results122]
theorem encBag_len (l : List En) (h : l.length ≤ 1000000) (hr : ∀ x ∈ l, x.row.length ≤ 16 ∧ I64 x.count) : (encBag l).length ≤ 10 + 1000 * l.length := by
  unfold encBag
  have h1 := enc_len (n := (l.length : Int)) (by omega) (by omega)
  have h2 := flat_len l (f := encEn) (n := 1000) fun x hx => encEn_len x (hr x hx).1 (hr x hx).2
  rw [List.length_append]; omega
set_option maxRecDepth 100000 in
theorem appendBag_walk (v s : Value) (ps : List (Value × En)) (xs : List Nat) (w : World) (hv : Sl w 1 v xs.length (bv xs)) (hvb : Lo v w.heap.size) (hs : DBag w.heap.size w s ps) (hw : ∀ p ∈ ps, p.2.row.length ≤ 16 ∧ I64 p.2.count) (hn : ps.length ≤ 100000) (hlx : xs.length + 200000000 ≤ 1099511627776) :
    Calls Try.prog 47 #[v, s] w fun e w' => ∃ v', e = .returned v' ∧ Own w' 5 1 v' (xs ++ encBag (ps.map (·.2))).length (bv (xs ++ encBag (ps.map (·.2)))) ∧ Fresh w w' v' := by
  have hep : 0 < (encBag (ps.map (·.2))).length := by unfold encBag; have := enc_pos (ps.map (·.2)).length; rw [List.length_append]; omega
  have hel := encBag_len (ps.map (·.2)) (by rw [List.length_map]; omega) (fun x hx => by obtain ⟨p, hp, rfl⟩ := List.mem_map.1 hx; exact hw p hp)
  rw [List.length_map] at hel
  obtain ⟨ao, cap, rfl, hnc, hcm⟩ := hs.1.shape
  have HS := hid hs
  clear hs
  go_enter_defers Try.func47, Try.ntmps47
  go_wp2_with fail
  refine (bag_app nilS _ ps [] _ w.heap.size (Own.nil _ _ _) (fun k hk => by simp [Value.ownBlock] at hk) HS.out (Nat.le_refl _) hw (by simp; omega)).mono ?_
  rintro e w1 ⟨v1, rfl, hown1, hg1⟩
  rw [List.nil_append] at hown1
  have hv1 := hv.below (none_below hg1.1) hvb
  go_wp2_with fail
  refine (extend_walk v v1 xs (encBag (ps.map (·.2))) _ hv1 (Sl.of_own hown1) hep (by omega)).mono ?_
  rintro e w2 ⟨v2, rfl, hown2, hg2⟩
  go_wp2
  refine leaves_cons (f := 122) (args := #[]) (by simp) (by simp [go_sem]) ?_
  refine (recABag_walk _).mono ?_
  rintro e u' w'' ⟨rfl, rfl, rfl⟩
  exact ⟨v2, results_tmp (t := 4) rfl _ _ _, _, rfl, hown2, Step.grown hg1.1 hg2⟩
end Go.Proofs.Ytkeiffccllfkpaa
