/- Vaults: the plain law (no program in sight): bytes in order, valid vaults, the place of an owner, what Ensure, Key, Shred, Drop answer. -/
import Derived.Test.YteakoleceoclkaaPP
namespace Go.Proofs.Yteakoleceoclkaa
set_option linter.unusedSimpArgs false
set_option linter.unusedVariables false
abbrev VP := List Nat × List Nd
def blt : List Nat → List Nat → Bool
 | a :: l, b :: m => decide (a < b) || (a == b && blt l m)
 | [], _ :: _ => true
 | _, [] => false
theorem blt_irrefl : ∀ l, blt l l = false
 | [] => rfl
 | a :: l => by simp [blt, blt_irrefl l]
theorem blt_trans : ∀ {a b c}, blt a b = true → blt b c = true → blt a c = true
 | [], [], _, h, _ => by simp [blt] at h
 | [], _ :: _, [], _, h => by simp [blt] at h
 | [], _ :: _, _ :: _, _, _ => rfl
 | _ :: _, [], _, h, _ => by simp [blt] at h
 | _ :: _, _ :: _, [], _, h => by simp [blt] at h
 | x :: a, y :: b, z :: c, h, k => by
   simp only [blt, Bool.or_eq_true, decide_eq_true_eq, Bool.and_eq_true, beq_iff_eq] at h k ⊢
   rcases h with h | ⟨h1, h2⟩ <;> rcases k with k | ⟨k1, k2⟩
   · exact .inl (by omega)
   · exact .inl (by omega)
   · exact .inl (by omega)
   · exact .inr ⟨by omega, blt_trans h2 k2⟩
theorem blt_total : ∀ a b, a = b ∨ blt a b = true ∨ blt b a = true
 | [], [] => .inl rfl
 | [], _ :: _ => .inr (.inl rfl)
 | _ :: _, [] => .inr (.inr rfl)
 | x :: a, y :: b => by
   simp only [blt, Bool.or_eq_true, decide_eq_true_eq, Bool.and_eq_true, beq_iff_eq]
   rcases Nat.lt_trichotomy x y with h | h | h
   · exact .inr (.inl (.inl h))
   · rcases blt_total a b with e | e | e
     · exact .inl (by rw [h, e])
     · exact .inr (.inl (.inr ⟨h, e⟩))
     · exact .inr (.inr (.inr ⟨h.symm, e⟩))
   · exact .inr (.inr (.inl h))
theorem blt_ne {a b : List Nat} (h : blt a b = true) : a ≠ b := by
 rintro rfl
 rw [blt_irrefl] at h
 cases h
def bcmp (a b : List Nat) : Int := if blt a b then -1 else if a = b then 0 else 1
theorem bcmp_lt {a b : List Nat} : decide (bcmp a b < 0) = blt a b := by
 unfold bcmp
 split
 · rename_i h; rw [h]; rfl
 · rename_i h
   have : blt a b = false := by simpa using h
   rw [this]
   split <;> rfl
theorem bcmp_ge {a b : List Nat} : decide (0 ≤ bcmp a b) = !blt a b := by
 rw [← bcmp_lt]
 by_cases h : bcmp a b < 0
 · simp [h]
 · simp [h]; omega
theorem bcmp_eq {a b : List Nat} : (bcmp a b == 0) = decide (a = b) := by
 unfold bcmp
 split
 · rename_i h; simp [blt_ne h]
 · split
   · rename_i h; simp [h]
   · rename_i h; simp [h]
def od (ps : List VP) (i : Nat) : List Nat := (ps[i]?.map (·.1)).getD []
def tr (ps : List VP) (i : Nat) : List Nd := (ps[i]?.map (·.2)).getD []
theorem od_at {ps : List VP} {i : Nat} (h : i < ps.length) : od ps i = ps[i].1 := by unfold od; rw [List.getElem?_eq_getElem h]; rfl
theorem tr_at {ps : List VP} {i : Nat} (h : i < ps.length) : tr ps i = ps[i].2 := by unfold tr; rw [List.getElem?_eq_getElem h]; rfl
def chk (ps : List VP) (i : Nat) : Bool := (decide (i = 0) || blt (od ps (i - 1)) (od ps i)) && vld (tr ps i)
def vldV (ps : List VP) : Bool := decide (ps.length ≤ 64) && (List.range ps.length).all (chk ps)
theorem vldV_iff {ps : List VP} : vldV ps = true ↔ ps.length ≤ 64 ∧ ∀ i, i < ps.length → chk ps i = true := by
 unfold vldV
 simp only [Bool.and_eq_true, decide_eq_true_eq, List.all_eq_true, List.mem_range]
theorem vldV_no {ps : List VP} {i : Nat} (h : i < ps.length) (hc : chk ps i = false) : vldV ps = false := by
 cases e : vldV ps with
 | false => rfl
 | true => have := (vldV_iff.1 e).2 i h; rw [hc] at this; cases this
theorem vldV_big {ps : List VP} (h : 64 < ps.length) : vldV ps = false := by
 cases e : vldV ps with
 | false => rfl
 | true => have := (vldV_iff.1 e).1; omega
theorem vldV_yes {ps : List VP} (h : ps.length ≤ 64) (hc : ∀ i, i < ps.length → chk ps i = true) : vldV ps = true := vldV_iff.2 ⟨h, hc⟩
def Srt (ps : List VP) : Prop := ∀ i, i + 1 < ps.length → blt (od ps i) (od ps (i + 1)) = true
theorem Srt.of {ps : List VP} (h : vldV ps = true) : Srt ps := by
 intro i hi
 have := (vldV_iff.1 h).2 (i + 1) hi
 simp only [chk, Bool.and_eq_true, Bool.or_eq_true, decide_eq_true_eq, Nat.add_sub_cancel] at this
 rcases this.1 with h0 | h0
 · omega
 · exact h0
theorem Srt.lt {ps : List VP} (h : Srt ps) : ∀ {i j}, i < j → j < ps.length → blt (od ps i) (od ps j) = true := by
 intro i j hij hj
 induction j with
 | zero => omega
 | succ j ih =>
   rcases Nat.lt_or_ge i j with hl | hl
   · exact blt_trans (ih hl (by omega)) (h j hj)
   · have : i = j := by omega
     subst this
     exact h i hj
theorem vldV_trees {ps : List VP} (h : vldV ps = true) {i : Nat} (hi : i < ps.length) : vld (tr ps i) = true := by
 have := (vldV_iff.1 h).2 i hi
 simp only [chk, Bool.and_eq_true] at this
 exact this.2
theorem vldV_of {ps : List VP} (h : ps.length ≤ 64) (hs : Srt ps) (ht : ∀ i, i < ps.length → vld (tr ps i) = true) : vldV ps = true := by
 refine vldV_iff.2 ⟨h, fun i hi => ?_⟩
 simp only [chk, Bool.and_eq_true, Bool.or_eq_true, decide_eq_true_eq]
 refine ⟨?_, ht i hi⟩
 cases i with
 | zero => exact .inl rfl
 | succ i => exact .inr (hs i hi)
def pos (ps : List VP) (o : List Nat) : Nat := ps.findIdx fun p => !blt p.1 o
theorem pos_le (ps : List VP) (o : List Nat) : pos ps o ≤ ps.length := List.findIdx_le_length
theorem pos_before {ps : List VP} {o : List Nat} {i : Nat} (h : i < pos ps o) : blt (od ps i) o = true := by
 have hl : i < ps.length := Nat.lt_of_lt_of_le h (pos_le ps o)
 have := List.not_of_lt_findIdx h
 rw [od_at hl]
 simpa using this
theorem pos_at {ps : List VP} {o : List Nat} (h : pos ps o < ps.length) : blt (od ps (pos ps o)) o = false := by
 rw [od_at h]
 unfold pos at h ⊢
 simpa using List.findIdx_getElem (xs := ps) (p := fun p => !blt p.1 o) (w := h)
theorem pos_uniq {ps : List VP} {o : List Nat} {i : Nat} (hi : i ≤ ps.length) (h1 : ∀ k, k < i → blt (od ps k) o = true) (h2 : i < ps.length → blt (od ps i) o = false) : pos ps o = i := by
 rcases Nat.lt_trichotomy (pos ps o) i with h | h | h
 · have := h1 _ h
   rw [pos_at (by omega)] at this
   cases this
 · exact h
 · have := pos_before h
   rw [h2 (Nat.lt_of_lt_of_le h (pos_le ps o))] at this
   cases this
def fnd (ps : List VP) (o : List Nat) : Bool := decide (pos ps o < ps.length ∧ od ps (pos ps o) = o)
theorem fnd_yes {ps : List VP} (hs : Srt ps) {o : List Nat} {i : Nat} (hi : i < ps.length) (h : od ps i = o) : pos ps o = i ∧ fnd ps o = true := by
 have e : pos ps o = i := pos_uniq (by omega) (fun k hk => h ▸ hs.lt hk hi) fun _ => by rw [h, blt_irrefl]
 exact ⟨e, by unfold fnd; rw [e]; simpa using ⟨hi, h⟩⟩
theorem fnd_at {ps : List VP} {o : List Nat} (h : fnd ps o = true) : pos ps o < ps.length ∧ od ps (pos ps o) = o := by simpa [fnd] using h
abbrev VV := List VP × List Nat × List Nat
def zeroV : VV := ([], zero32, zero32)
def insV (ps : List VP) (o : List Nat) (t : List Nd) : List VP := ps.take (pos ps o) ++ (o, t) :: ps.drop (pos ps o)
def ensO (v : VV) (o : List Nat) (t : List Nd) (nx : List Nat) : VV × Int :=
 if vldV v.1 then (if fnd v.1 o then (v, 0) else if 64 ≤ v.1.length then (zeroV, 8) else ((insV v.1 o t, v.2.1, nx), 0)) else (zeroV, 1)
/-! ## The reference: an owner is put at the end and moved down -/
def atPut (ps : List VP) (k : Nat) (x : VP) : List VP := ps.take k ++ x :: ps.drop k
theorem atPut_len {ps : List VP} {k : Nat} (h : k ≤ ps.length) (x : VP) : (atPut ps k x).length = ps.length + 1 := by
 unfold atPut
 rw [List.length_append, List.length_take, List.length_cons, List.length_drop]
 omega
theorem atPut_get {ps : List VP} {k : Nat} (h : k ≤ ps.length) (x : VP) (i : Nat) : (atPut ps k x)[i]? = if i < k then ps[i]? else if i = k then some x else ps[i - 1]? := by
 unfold atPut
 split
 · rename_i hi
   rw [List.getElem?_append_left (by rw [List.length_take]; omega), List.getElem?_take, if_pos hi]
 · rename_i hi
   rw [List.getElem?_append_right (by rw [List.length_take]; omega), List.length_take, Nat.min_eq_left h]
   split
   · rename_i hk; subst hk; simp
   · rename_i hk
     have : i - k = (i - 1 - k) + 1 := by omega
     rw [this, List.getElem?_cons_succ, List.getElem?_drop]
     congr 1
     omega
theorem insV_put (ps : List VP) (o : List Nat) (t : List Nd) : insV ps o t = atPut ps (pos ps o) (o, t) := rfl
/-! ## Vaults stay valid -/
theorem od_get {ps qs : List VP} {i j : Nat} (h : ps[i]? = qs[j]?) : od ps i = od qs j ∧ tr ps i = tr qs j := by unfold od tr; rw [h]; exact ⟨rfl, rfl⟩
theorem od_some {ps : List VP} {i : Nat} {x : VP} (h : ps[i]? = some x) : od ps i = x.1 ∧ tr ps i = x.2 := by unfold od tr; rw [h]; exact ⟨rfl, rfl⟩
theorem pos_after {ps : List VP} (hs : Srt ps) {o : List Nat} (hn : fnd ps o = false) {j : Nat} (h : pos ps o ≤ j) (hj : j < ps.length) : blt o (od ps j) = true := by
 have h0 : blt o (od ps (pos ps o)) = true := by
   have hp : pos ps o < ps.length := by omega
   rcases blt_total (od ps (pos ps o)) o with e | e | e
   · have := (fnd_yes hs hp e).2
     rw [hn] at this
     cases this
   · rw [pos_at hp] at e; cases e
   · exact e
 rcases Nat.lt_or_ge (pos ps o) j with h1 | h1
 · exact blt_trans h0 (hs.lt h1 hj)
 · have : pos ps o = j := by omega
   rw [← this]
   exact h0
theorem insV_vld {ps : List VP} {o : List Nat} {t : List Nd} (h : vldV ps = true) (hn : fnd ps o = false) (hl : ps.length < 64) (ht : vld t = true) : vldV (insV ps o t) = true := by
 have hs := Srt.of h
 have hp := pos_le ps o
 have g := atPut_get hp (o, t)
 rw [insV_put]
 have hlen := atPut_len hp (o, t)
 refine vldV_of (by rw [show pos ps (o, t).1 = pos ps o from rfl, hlen]; omega) (fun i hi => ?_) fun i hi => ?_
 · rw [hlen] at hi
   rcases Nat.lt_trichotomy (i + 1) (pos ps o) with h1 | h1 | h1
   · rw [(od_get (qs := ps) (j := i) ((g i).trans (if_pos (by omega)))).1, (od_get (qs := ps) (j := i + 1) ((g (i + 1)).trans (if_pos h1))).1]
     exact hs i (by omega)
   · have hb : blt (od ps i) o = true := pos_before (by omega)
     rw [(od_get (qs := ps) (j := i) ((g i).trans (if_pos (by omega)))).1, (od_some ((g (i + 1)).trans (by rw [if_neg (by omega), if_pos h1]))).1]
     exact hb
   · rcases Nat.lt_or_ge (pos ps o) i with h2 | h2
     · rw [(od_get (qs := ps) (j := i - 1) ((g i).trans (by rw [if_neg (by omega), if_neg (by omega)]))).1, (od_get (qs := ps) (j := i) ((g (i + 1)).trans (by rw [if_neg (by omega), if_neg (by omega)]; rfl))).1]
       exact hs.lt (by omega) (by omega)
     · have : i = pos ps o := by omega
       rw [(od_some ((g i).trans (by rw [if_neg (by omega), if_pos this]))).1, (od_get (qs := ps) (j := i) ((g (i + 1)).trans (by rw [if_neg (by omega), if_neg (by omega)]; rfl))).1]
       exact pos_after hs hn (by omega) (by omega)
 · rw [hlen] at hi
   rcases Nat.lt_trichotomy i (pos ps o) with h1 | h1 | h1
   · rw [(od_get (qs := ps) (j := i) ((g i).trans (if_pos h1))).2]
     exact vldV_trees h (by omega)
   · rw [(od_some ((g i).trans (by rw [if_neg (by omega), if_pos h1]))).2]
     exact ht
   · rw [(od_get (qs := ps) (j := i - 1) ((g i).trans (by rw [if_neg (by omega), if_neg (by omega)]))).2]
     exact vldV_trees h (by omega)
end Go.Proofs.Yteakoleceoclkaa
