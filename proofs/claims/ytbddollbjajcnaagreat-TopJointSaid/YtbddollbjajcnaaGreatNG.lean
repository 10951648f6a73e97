/- TopJoint, walked from where the tape is made. -/
import Derived.Test.YtbddollbjajcnaaGreatNL
namespace Go.Proofs.YtbddollbjajcnaaGreat
open Go Go.RowKit
noncomputable section
set_option linter.unusedVariables false
set_option linter.unusedSimpArgs false
/-- where all lies -/
def alf (σ : Sg) (bt B : Nat) : Nat → Option XL
  | 1 => some ⟨0, σ.s1⟩
  | 2 => some ⟨0, σ.s2⟩
  | 3 => some ⟨0, σ.s3⟩
  | 4 => some ⟨0, σ.s4⟩
  | 5 => some ⟨bt, 0⟩
  | 6 => some ⟨B, 0⟩
  | _ => none
def al (σ : Sg) (bt B : Nat) : XM := fun q => alf σ bt B q.nat
theorem okSg_ok {σ : Sg} (h : okSg σ = true) : 1 ≤ σ.s1 ∧ σ.s1 < σ.s2 ∧ σ.s2 ≤ 4 ∧ 1 ≤ σ.s3 ∧ σ.s3 ≤ 4 ∧ 1 ≤ σ.s4 ∧ σ.s4 ≤ 4 ∧ σ.s3 ≠ σ.s1 ∧ σ.s3 ≠ σ.s2 ∧ σ.s4 ≠ σ.s1 ∧ σ.s4 ≠ σ.s2 ∧ σ.s4 ≠ σ.s3 := by
  unfold okSg at h
  simp only [Bool.and_eq_true, decide_eq_true_eq] at h
  omega
theorem alf_low {σ : Sg} {bt B : Nat} {n : Nat} (h1 : 1 ≤ n) (h4 : n ≤ 4) : alf σ bt B n = some ⟨0, σ.at n⟩ := by
  have : n = 1 ∨ n = 2 ∨ n = 3 ∨ n = 4 := by omega
  rcases this with rfl | rfl | rfl | rfl <;> rfl
theorem al_sym {σ : Sg} {bt B : Nat} (h : okSg σ = true) : SymOK (al σ bt B) := by
  have k := okSg_ok h
  refine ⟨fun i hi => ?_, fun i j l m hi hj hl hm e => ?_, fun l m hl hm => ?_⟩
  · have h4 := Nat.le_of_ble_eq_true hi
    have h1 := i.nat_pos
    refine ⟨_, alf_low h1 h4, ?_⟩
    have : i.nat = 1 ∨ i.nat = 2 ∨ i.nat = 3 ∨ i.nat = 4 := by omega
    rcases this with e | e | e | e <;> rw [e] <;> simp only [Sg.at] <;> omega
  · have hi4 := Nat.le_of_ble_eq_true hi
    have hj4 := Nat.le_of_ble_eq_true hj
    have hi1 := i.nat_pos
    have hj1 := j.nat_pos
    have hl' : al σ bt B i = some ⟨0, σ.at i.nat⟩ := alf_low hi1 hi4
    have hm' : al σ bt B j = some ⟨0, σ.at j.nat⟩ := alf_low hj1 hj4
    rw [hl'] at hl
    rw [hm'] at hm
    cases hl
    cases hm
    have e : σ.at i.nat = σ.at j.nat := e
    refine XP.nat_inj ?_
    have a : i.nat = 1 ∨ i.nat = 2 ∨ i.nat = 3 ∨ i.nat = 4 := by omega
    have b : j.nat = 1 ∨ j.nat = 2 ∨ j.nat = 3 ∨ j.nat = 4 := by omega
    rcases a with a | a | a | a <;> rcases b with b | b | b | b <;> rw [a, b] at e ⊢ <;> simp only [Sg.at] at e <;> omega
  · have hl : some (XL.mk 0 σ.s1) = some l := hl
    have hm : some (XL.mk 0 σ.s2) = some m := hm
    cases hl
    cases hm
    show σ.s1 < σ.s2
    omega
theorem heap0_tape : XT.get tapeN heap0 = some .hid := by
  unfold heap0
  exact XT.get_put _ _ _
theorem heap0_get {b : XP} {o : XO} (h : XT.get b heap0 = some o) : b = tapeN ∧ o = .hid := by
  by_cases e : tapeN = b
  · subst e
    have : XT.get tapeN heap0 = some .hid := XT.get_put _ _ _
    rw [this] at h
    cases h
    exact ⟨rfl, rfl⟩
  · unfold heap0 at h
    rw [XT.get_put_ne _ _ _ _ e, XT.get_leaf] at h
    cases h
theorem pr_ok {σ : Sg} {bt B : Nat} {n x : Nat} (h : σ.at n = x + 1) : CR (al σ bt B) (pr n) (.int .i64 (x : Int)) := by
  have : n = 1 ∨ n = 2 ∨ n = 3 ∨ n = 4 := by
    match n, h with
    | 0, h => cases h
    | 1, _ => exact .inl rfl
    | 2, _ => exact .inr (.inl rfl)
    | 3, _ => exact .inr (.inr (.inl rfl))
    | 4, _ => exact .inr (.inr (.inr rfl))
    | n + 5, h => cases h
  have hv : (x : Int) = ((σ.at n : Nat) : Int) - 1 := by omega
  rw [hv]
  rcases this with rfl | rfl | rfl | rfl
  · exact ⟨⟨0, σ.s1⟩, rfl, rfl⟩
  · exact ⟨⟨0, σ.s2⟩, rfl, rfl⟩
  · exact ⟨⟨0, σ.s3⟩, rfl, rfl⟩
  · exact ⟨⟨0, σ.s4⟩, rfl, rfl⟩
theorem prs_ok {σ : Sg} {bt B : Nat} : ∀ {l : List Nat} {m : List Int}, (∀ v ∈ m, 0 ≤ v) → l.map σ.at = m.map (fun v => v.toNat + 1) → F2 (CR (al σ bt B)) (l.map pr) (m.map (.int .i64))
  | [], [], _, _ => .nil
  | [], _ :: _, _, h => by cases h
  | _ :: _, [], _, h => by cases h
  | n :: l, v :: m, h0, h => by
    simp only [List.map_cons, List.cons.injEq] at h
    have h1 := pr_ok (bt := bt) (B := B) h.1
    rw [Int.toNat_of_nonneg (h0 v (by simp))] at h1
    exact .cons h1 (prs_ok (fun u hu => h0 u (by simp [hu])) h.2)
/-- the values of a tape as a script -/
theorem script_ok (xs : List Int) (bt B : Nat) : ∃ (σ : Sg) (p : Pat), okSg σ = true ∧ p ∈ pats ∧ F2 (CR (al σ bt B)) (script p.1 p.2.1 p.2.2) ((seqV xs 0 (script p.1 p.2.1 p.2.2).length).map (.int .i64)) := by
  generalize ha0 : nextV xs 0 = q0
  have r0 := nextV_range xs 0
  rw [ha0] at r0
  generalize ha1 : nextV xs q0.2 = q1
  have r1 := nextV_range xs q0.2
  rw [ha1] at r1
  generalize ha2 : nextV xs q1.2 = q2
  have r2 := nextV_range xs q1.2
  rw [ha2] at r2
  have hr := seqV_range xs q2.1.toNat q2.2
  have hlen := seqV_length xs q2.1.toNat q2.2
  generalize hR : seqV xs q2.2 q2.1.toNat = rest at hr hlen
  obtain ⟨σ, p, h1, h2, h3, h4, h5⟩ := pattern (a := q0.1.toNat + 1) (b := q1.1.toNat + 1) (r := rest.map fun v => v.toNat + 1) (by omega) (by omega) (fun x hx => by
    obtain ⟨v, hv, rfl⟩ := List.mem_map.1 hx
    have := hr v hv
    omega) (by rw [List.length_map, hlen]; omega)
  refine ⟨σ, p, h1, h2, ?_⟩
  have hl : p.2.2.length = q2.1.toNat := by
    have := congrArg List.length h5
    rw [List.length_map, List.length_map, hlen] at this
    exact this
  have hn : (script p.1 p.2.1 p.2.2).length = q2.1.toNat + 3 := by
    simp only [script, List.length_cons, List.length_map, hl]
  have hs : seqV xs 0 (q2.1.toNat + 3) = q0.1 :: q1.1 :: q2.1 :: rest := by
    rw [← hR]
    show (nextV xs 0).1 :: (nextV xs (nextV xs 0).2).1 :: (nextV xs (nextV xs (nextV xs 0).2).2).1 :: seqV xs (nextV xs (nextV xs (nextV xs 0).2).2).2 q2.1.toNat = _
    rw [ha0, ha1, ha2]
  rw [hn, hs]
  have e0 := pr_ok (bt := bt) (B := B) h3
  have e1 := pr_ok (bt := bt) (B := B) h4
  rw [Int.toNat_of_nonneg r0.1] at e0
  rw [Int.toNat_of_nonneg r1.1] at e1
  refine .cons e0 (.cons e1 (.cons ?_ (prs_ok (fun v hv => (hr v hv).1) h5)))
  show Value.int .i64 q2.1 = .int .i64 (Int.ofNat p.2.2.length)
  rw [hl]
  have := Int.toNat_of_nonneg r2.1
  rw [show Int.ofNat q2.1.toNat = q2.1 from this]
theorem start_ok {w : World} {bt B : Nat} {xs : List Int} (ht : TapeAt w bt B xs 0) (hbt : bt < w.heap.size) (hB : B < w.heap.size) {σ : Sg} (hσ : okSg σ = true) {sc : List XC} (hsc : F2 (CR (al σ bt B)) sc ((seqV xs 0 sc.length).map (.int .i64))) : HR (al σ bt B) (st0 sc) w := by
  refine ⟨al_sym hσ, Nat.zero_le _, fun b o hb => ?_, fun b b' o o' l l' hb hb' _ _ _ => ?_, fun b hb => ?_, fun p q hp => ?_, fun b o hb => ?_, fun p q hp => ?_⟩
  · obtain ⟨rfl, rfl⟩ := heap0_get hb
    exact ⟨⟨bt, 0⟩, rfl, hbt⟩
  · rw [(heap0_get hb).1, (heap0_get hb').1]
  · have hb : 16 ≤ b.nat := hb
    show alf σ bt B b.nat = none
    generalize b.nat = n at hb
    match n, hb with
    | n + 16, _ => rfl
  · have hp : some (tapeN, rowN) = some (p, q) := hp
    cases hp
    refine ⟨⟨bt, 0⟩, ⟨B, 0⟩, _, rfl, rfl, heap0_tape, hB, fun b o n hb hn => ?_, hsc, fun v h1 h2 => ⟨xs, 0, ht.of h1 h2, ?_⟩⟩
    · obtain ⟨rfl, rfl⟩ := heap0_get hb
      have hn : some (XL.mk bt 0) = some n := hn
      cases hn
      exact ht.ne
    · rw [List.length_map, seqV_length]
  · have hb : XT.get b .leaf = some o := hb
    rw [XT.get_leaf] at hb
    cases hb
  · have hp : some (tapeN, rowN) = some (p, q) := hp
    cases hp
    exact heap0_tape
theorem frame_ok {α : XM} {bt : Nat} (hα : ∃ l, α tapeN = some l ∧ l.blk = bt) {a : Act} (hs : a.tmps.size = 128) (h2 : a.tmps.getD 2 undef = .bool false) (h3 : a.tmps.getD 3 undef = .pointer (some ⟨bt, 0, none⟩)) : FR1 α frame0 a := by
  refine ⟨hs, by decide, fun t v ht hv => ?_⟩
  have ht : t < 128 := ht
  by_cases e3 : t = 3
  · subst e3
    have : XT.get (XP.key 3) frame0.tm = some (.one (.ptr (some (tapeN, 0)))) := by
      unfold frame0
      exact XT.get_put (some (XV.one (.ptr (some (tapeN, 0))))) (XP.key 3) (XT.put (some (XV.one (.bool false))) (XP.key 2) .leaf)
    rw [this] at hv
    cases hv
    obtain ⟨l, q1, rfl⟩ := hα
    exact ⟨l, q1, h3⟩
  · by_cases e2 : t = 2
    · subst e2
      have : XT.get (XP.key 2) frame0.tm = some (.one (.bool false)) := by
        unfold frame0
        rw [XT.get_put_ne _ _ _ _ (fun e => by have := XP.key_inj (by omega) (by omega) e; omega), XT.get_put]
      rw [this] at hv
      cases hv
      exact h2
    · unfold frame0 at hv
      rw [XT.get_put_ne _ _ _ _ (fun e => e3 (XP.key_inj (by omega) (by omega) e).symm), XT.get_put_ne _ _ _ _ (fun e => e2 (XP.key_inj (by omega) (by omega) e).symm), XT.get_leaf] at hv
      cases hv
/-- the rest of TopJoint, from a tape -/
theorem rest_walk (hall : ∀ p ∈ pats, jointB (script p.1 p.2.1 p.2.2) = true) {w : World} {bt B : Nat} {xs : List Int} (ht : TapeAt w bt B xs 0) (hbt : bt < w.heap.size) (hB : B < w.heap.size) {a : Act} (hd : a.defers = []) (hs : a.tmps.size = 128) (h2 : a.tmps.getD 2 undef = .bool false) (h3 : a.tmps.getD 3 undef = .pointer (some ⟨bt, 0, none⟩)) {R : Ending → World → Prop}
    (hR : ∀ w', w'.os = w.os → w'.tape = w.tape → w'.output = w.output → w.heap.size ≤ w'.heap.size → (∀ i, i < w.heap.size → i ≠ bt → w'.heap[i]? = w.heap[i]?) → R (.returned (.bool true)) w') :
    restJ.wp Tryz.prog (bodyPostD Tryz.prog Tryz.f3 R) a w := by
  obtain ⟨σ, p, hσ, hp, hsc⟩ := script_ok xs bt B
  have hj := hall p hp
  generalize script p.1 p.2.1 p.2.2 = sc at hsc hj
  have H := start_ok ht hbt hB hσ hsc
  unfold jointB at hj
  cases hq : runJ sc with
  | none => rw [hq] at hj; cases hj
  | some res =>
    rw [hq] at hj
    obtain ⟨outs, h5, h6⟩ := ob_some hq
    refine runX_ok mixed tb_ok hookJ_ok sb44 1000000 restJ frame0 (st0 sc) outs restJ_ok h5 _ a w H (frame_ok ⟨⟨bt, 0⟩, rfl, rfl⟩ hs h2 h3) (fun d hd' => by rw [hd] at hd'; cases hd') _ fun e f t hm β a' w' q1 q2 q3 q4 q5 => ?_
    obtain ⟨hor, x, hx, hmem⟩ := leaveX_ok h6 e f t hm
    have hxt : x = .one (.bool true) := sameAll_ok hj _ hmem
    subst hxt
    obtain ⟨v, hv, hvr⟩ := resX_ok q1 q4 hx
    obtain rfl : v = .bool true := hvr
    have hr := hR w' q2.os q2.tape q2.output q2.size fun i hi hne => q2.keep i hi fun b o l hb hl e => by
      obtain ⟨rfl, rfl⟩ := heap0_get hb
      have hl : some (XL.mk bt 0) = some l := hl
      cases hl
      exact hne e.symm
    have hleave : Leaves Tryz.prog Tryz.f3 a'.tmps R a'.defers .returning w' := leaves_ret hv hr q5
    rcases hor with rfl | rfl
    · exact hleave
    · exact hleave
def nextF (f : XF) (d : Nat) (x : XV) : XF := (f.put (some d) x).getD f
def gF0 : XF := enterX 128 [.any]
def gF1 : XF := nextF gF0 2 (.one (.bool false))
def gF2 : XF := nextF gF1 14 .any
def gF3 : XF := nextF gF2 15 .any
def gF4 : XF := nextF gF3 3 (.one (.ptr (some (tapeN, 0))))
theorem ev_same {a : Act} {d : Nat} {v : Value} (h : d < a.tmps.size) : (a.put (some d) v).eval (.tmp d) = v := by
  show (a.tmps.setIfInBounds d v).getD d undef = v
  rw [Array.getD_eq_getD_getElem?, Array.getElem?_setIfInBounds_self_of_lt h]
  rfl
theorem ev_ne {a : Act} {d t : Nat} {v : Value} (h : d ≠ t) : (a.put (some d) v).eval (.tmp t) = a.eval (.tmp t) := by
  show (a.tmps.setIfInBounds d v).getD t undef = a.tmps.getD t undef
  rw [Array.getD_eq_getD_getElem?, Array.getElem?_setIfInBounds_ne h, ← Array.getD_eq_getD_getElem?]
theorem gF_ok (bt : Nat) (v0 : Value) {a0 : Act} (F0 : FR1 (fun _ => some ⟨bt, 0⟩) gF0 a0) (hd : a0.defers = []) : let a : Act := (((a0.put (some 2) (.bool false)).put (some 14) v0).put (some 15) (.pointer (some ⟨bt, 0, none⟩))).put (some 3) (.pointer (some ⟨bt, 0, none⟩))
    a.defers = [] ∧ a.tmps.size = 128 ∧ a.tmps.getD 2 undef = .bool false ∧ a.tmps.getD 3 undef = .pointer (some ⟨bt, 0, none⟩) := by
  intro a
  have F1 : FR1 _ gF1 _ := F0.put (x := .one (.bool false)) (v := .bool false) (d := some 2) rfl (by kernel_rfl)
  have F2 : FR1 _ gF2 _ := F1.put (x := .any) (v := v0) (d := some 14) trivial (by kernel_rfl)
  have F3 : FR1 _ gF3 _ := F2.put (x := .any) (v := .pointer (some ⟨bt, 0, none⟩)) (d := some 15) trivial (by kernel_rfl)
  have F4 : FR1 (fun _ => some ⟨bt, 0⟩) gF4 a := F3.put (x := .one (.ptr (some (tapeN, 0)))) (v := .pointer (some ⟨bt, 0, none⟩)) (d := some 3) ⟨_, rfl, rfl⟩ (by kernel_rfl)
  refine ⟨by simp [a, put_defers, hd], F4.size.trans (by kernel_rfl), F4.val 2 (.one (.bool false)) (by decide) (by kernel_rfl), ?_⟩
  obtain ⟨l, h1, h2⟩ := F4.val 3 (.one (.ptr (some (tapeN, 0)))) (by decide) (by kernel_rfl)
  cases h1
  exact h2
theorem start_act (bt : Nat) (v0 : Value) : FR1 (fun _ => some ⟨bt, 0⟩) gF0 { tmps := #[v0] ++ Array.replicate (128 - #[v0].size) undef, defers := [] } :=
  enter_ok (args := [.any]) (vs := [v0]) (.cons trivial .nil) (n := 128) (by decide) (by decide)
theorem start_zero' {a : Act} {v0 : Value} {n : Nat} (h : a.tmps = #[v0] ++ Array.replicate n undef) : a.eval (.tmp 0) = v0 := by
  show a.tmps.getD 0 undef = v0
  rw [h, Array.getD_eq_getD_getElem?, Array.getElem?_append_left (by simp)]
  simp
theorem start_zero (v0 : Value) : ({ tmps := #[v0] ++ Array.replicate (128 - #[v0].size) undef, defers := [] } : Act).eval (.tmp 0) = v0 := start_zero' rfl
def headC : Option Code → Code
  | some (.seq a _) => a
  | _ => .skip
def headD : Option Code → Code
  | some (.seq _ (.seq a _)) => a
  | _ => .skip
theorem body_joint : Tryz.f3.body = some (.seq (headC Tryz.f3.body) (.seq (headD Tryz.f3.body) restJ)) := by kernel_rfl
theorem fnE_new : FnE Tryz.prog 7 := FnE.of Tryz.func7 (by kernel_rfl) rfl
set_option maxRecDepth 100000 in
theorem joint_walk (hall : ∀ p ∈ pats, jointB (script p.1 p.2.1 p.2.2) = true) (w : World) (b0 : Option Addr) (n cap : Nat) (xs : List Int) (hn : xs.length = n) (hb : b0 = none → n = 0) (hx : ∀ j x, xs[j]? = some x → ∀ a, b0 = some a → w.cell? (a.add j) = some (.int .i64 x)) (hsz : n * 8 ≤ 140737488355328) :
    Calls Tryz.prog 3 #[.slice b0 n cap] w (fun e w' => e = .returned (.bool true) ∧ w.grownBy w' none) := by
  refine calls_of_wp_defers Tryz.func3 body_joint ?_
  have q1 := fun bt => start_act bt (.slice b0 n cap)
  have q2 := start_zero (.slice b0 n cap)
  rw [show Tryz.f3.ntmps = 128 from rfl]
  have q3 : ({ tmps := #[.slice b0 n cap] ++ Array.replicate (128 - #[Value.slice b0 n cap].size) undef, defers := [] } : Act).defers = [] := rfl
  generalize ({ tmps := #[.slice b0 n cap] ++ Array.replicate (128 - #[Value.slice b0 n cap].size) undef, defers := [] } : Act) = a0 at q1 q2 q3 ⊢
  have q4 : a0.tmps.size = 128 := (q1 0).size
  refine wp_seq ?_
  refine wp_region_list ?_
  refine wpv (v := .bool false) rfl rfl ?_
  refine wpList_nil ?_
  refine wp_seq ?_
  refine wp_region_list ?_
  refine wpv (v := (a0.put (some 2) (.bool false)).eval (.tmp 0)) rfl rfl ?_
  rw [ev_ne (by decide), q2]
  refine wpList_plain rfl fun K hK => ?_
  unfold Oper.wp
  rw [run_callV (us := []) (vs := []) rfl rfl fnE_new w]
  refine Calls.mono (R := fun e w' => ∃ bt B, e = .returned (.pointer (some ⟨bt, 0, none⟩)) ∧ w.grownBy w' none ∧ w.heap.size ≤ bt ∧ w.heap.size ≤ B ∧ bt < w'.heap.size ∧ B < w'.heap.size ∧ TapeAt w' bt B xs 0) ?_ ?_
  · show Calls Tryz.prog 7 #[((a0.put (some 2) (.bool false)).put (some 14) (.slice b0 n cap)).eval (.tmp 14)] w _
    rw [ev_same (by simp [Act.put, q4])]
    exact new_walk w b0 n cap xs hn hb hx hsz
  rintro e w1 ⟨bt, B, rfl, g1, g2, g3, g4, g5, g6⟩
  refine hK _ _ ?_
  refine wpv (v := ((( a0.put (some 2) (.bool false)).put (some 14) (.slice b0 n cap)).put (some 15) (.pointer (some ⟨bt, 0, none⟩))).eval (.tmp 15)) rfl rfl ?_
  rw [ev_same (by simp [Act.put, q4])]
  refine wpList_nil ?_
  obtain ⟨d1, d2, d3, d4⟩ := gF_ok bt (.slice b0 n cap) (q1 bt) q3
  refine rest_walk hall g6 g4 g5 d1 d2 d3 d4 fun w' k1 k2 k3 k4 k5 => ⟨rfl, ?_⟩
  exact ⟨k1.trans g1.os, k2.trans g1.tape, k3.trans g1.output, Nat.le_trans g1.size k4, fun i hi hne => (k5 i (Nat.lt_of_lt_of_le hi g1.size) (by omega)).trans (g1.block i hi hne)⟩
end
end Go.Proofs.YtbddollbjajcnaaGreat
