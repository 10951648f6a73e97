/- Vaults: the plain law (no program in sight): bytes in order, valid vaults, the place of an owner, what Ensure, Key, Shred, Drop answer. -/
import Derived.Test.YteakoleceoclkaaPP
namespace Go.Proofs.Yteakoleceoclkaa
set_option linter.unusedSimpArgs false
set_option linter.unusedVariables false
abbrev VP := List Nat × List Nd
def blt : List Nat → List Nat → Bool
 | a :: l, b :: m => decide (a < b) || (a == b && blt l m)
 | [], _ :: _ => true
 | _, [] => false
theorem blt_irrefl : ∀ l, blt l l = false
 | [] => rfl
 | a :: l => by simp [blt, blt_irrefl l]
theorem blt_trans : ∀ {a b c}, blt a b = true → blt b c = true → blt a c = true
 | [], [], _, h, _ => by simp [blt] at h
 | [], _ :: _, [], _, h => by simp [blt] at h
 | [], _ :: _, _ :: _, _, _ => rfl
 | _ :: _, [], _, h, _ => by simp [blt] at h
 | _ :: _, _ :: _, [], _, h => by simp [blt] at h
 | x :: a, y :: b, z :: c, h, k => by
   simp only [blt, Bool.or_eq_true, decide_eq_true_eq, Bool.and_eq_true, beq_iff_eq] at h k ⊢
   rcases h with h | ⟨h1, h2⟩ <;> rcases k with k | ⟨k1, k2⟩
   · exact .inl (by omega)
   · exact .inl (by omega)
   · exact .inl (by omega)
   · exact .inr ⟨by omega, blt_trans h2 k2⟩
theorem blt_total : ∀ a b, a = b ∨ blt a b = true ∨ blt b a = true
 | [], [] => .inl rfl
 | [], _ :: _ => .inr (.inl rfl)
 | _ :: _, [] => .inr (.inr rfl)
 | x :: a, y :: b => by
   simp only [blt, Bool.or_eq_true, decide_eq_true_eq, Bool.and_eq_true, beq_iff_eq]
   rcases Nat.lt_trichotomy x y with h | h | h
   · exact .inr (.inl (.inl h))
   · rcases blt_total a b with e | e | e
     · exact .inl (by rw [h, e])
     · exact .inr (.inl (.inr ⟨h, e⟩))
     · exact .inr (.inr (.inr ⟨h.symm, e⟩))
   · exact .inr (.inr (.inl h))
theorem blt_asymm {a b : List Nat} (h : blt a b = true) : blt b a = false := by
 cases e : blt b a with
 | false => rfl
 | true => have := blt_trans h e; rw [blt_irrefl] at this; cases this
theorem blt_ne {a b : List Nat} (h : blt a b = true) : a ≠ b := by
 rintro rfl
 rw [blt_irrefl] at h
 cases h
def bcmp (a b : List Nat) : Int := if blt a b then -1 else if a = b then 0 else 1
theorem bcmp_lt {a b : List Nat} : decide (bcmp a b < 0) = blt a b := by
 unfold bcmp
 split
 · rename_i h; rw [h]; rfl
 · rename_i h
   have : blt a b = false := by simpa using h
   rw [this]
   split <;> rfl
theorem bcmp_ge {a b : List Nat} : decide (0 ≤ bcmp a b) = !blt a b := by
 rw [← bcmp_lt]
 by_cases h : bcmp a b < 0
 · simp [h]
 · simp [h]; omega
theorem bcmp_eq {a b : List Nat} : (bcmp a b == 0) = decide (a = b) := by
 unfold bcmp
 split
 · rename_i h; simp [blt_ne h]
 · split
   · rename_i h; simp [h]
   · rename_i h; simp [h]
def od (ps : List VP) (i : Nat) : List Nat := (ps[i]?.map (·.1)).getD []
def tr (ps : List VP) (i : Nat) : List Nd := (ps[i]?.map (·.2)).getD []
theorem od_at {ps : List VP} {i : Nat} (h : i < ps.length) : od ps i = ps[i].1 := by unfold od; rw [List.getElem?_eq_getElem h]; rfl
theorem tr_at {ps : List VP} {i : Nat} (h : i < ps.length) : tr ps i = ps[i].2 := by unfold tr; rw [List.getElem?_eq_getElem h]; rfl
def chk (ps : List VP) (i : Nat) : Bool := (decide (i = 0) || blt (od ps (i - 1)) (od ps i)) && vld (tr ps i)
def vldV (ps : List VP) : Bool := decide (ps.length ≤ 64) && (List.range ps.length).all (chk ps)
theorem vldV_iff {ps : List VP} : vldV ps = true ↔ ps.length ≤ 64 ∧ ∀ i, i < ps.length → chk ps i = true := by
 unfold vldV
 simp only [Bool.and_eq_true, decide_eq_true_eq, List.all_eq_true, List.mem_range]
theorem vldV_no {ps : List VP} {i : Nat} (h : i < ps.length) (hc : chk ps i = false) : vldV ps = false := by
 cases e : vldV ps with
 | false => rfl
 | true => have := (vldV_iff.1 e).2 i h; rw [hc] at this; cases this
theorem vldV_big {ps : List VP} (h : 64 < ps.length) : vldV ps = false := by
 cases e : vldV ps with
 | false => rfl
 | true => have := (vldV_iff.1 e).1; omega
theorem vldV_yes {ps : List VP} (h : ps.length ≤ 64) (hc : ∀ i, i < ps.length → chk ps i = true) : vldV ps = true := vldV_iff.2 ⟨h, hc⟩
def Srt (ps : List VP) : Prop := ∀ i, i + 1 < ps.length → blt (od ps i) (od ps (i + 1)) = true
theorem Srt.of {ps : List VP} (h : vldV ps = true) : Srt ps := by
 intro i hi
 have := (vldV_iff.1 h).2 (i + 1) hi
 simp only [chk, Bool.and_eq_true, Bool.or_eq_true, decide_eq_true_eq, Nat.add_sub_cancel] at this
 rcases this.1 with h0 | h0
 · omega
 · exact h0
theorem Srt.lt {ps : List VP} (h : Srt ps) : ∀ {i j}, i < j → j < ps.length → blt (od ps i) (od ps j) = true := by
 intro i j hij hj
 induction j with
 | zero => omega
 | succ j ih =>
   rcases Nat.lt_or_ge i j with hl | hl
   · exact blt_trans (ih hl (by omega)) (h j hj)
   · have : i = j := by omega
     subst this
     exact h i hj
theorem vldV_trees {ps : List VP} (h : vldV ps = true) {i : Nat} (hi : i < ps.length) : vld (tr ps i) = true := by
 have := (vldV_iff.1 h).2 i hi
 simp only [chk, Bool.and_eq_true] at this
 exact this.2
theorem vldV_of {ps : List VP} (h : ps.length ≤ 64) (hs : Srt ps) (ht : ∀ i, i < ps.length → vld (tr ps i) = true) : vldV ps = true := by
 refine vldV_iff.2 ⟨h, fun i hi => ?_⟩
 simp only [chk, Bool.and_eq_true, Bool.or_eq_true, decide_eq_true_eq]
 refine ⟨?_, ht i hi⟩
 cases i with
 | zero => exact .inl rfl
 | succ i => exact .inr (hs i hi)
def pos (ps : List VP) (o : List Nat) : Nat := ps.findIdx fun p => !blt p.1 o
theorem pos_le (ps : List VP) (o : List Nat) : pos ps o ≤ ps.length := List.findIdx_le_length
theorem pos_before {ps : List VP} {o : List Nat} {i : Nat} (h : i < pos ps o) : blt (od ps i) o = true := by
 have hl : i < ps.length := Nat.lt_of_lt_of_le h (pos_le ps o)
 have := List.not_of_lt_findIdx h
 rw [od_at hl]
 simpa using this
theorem pos_at {ps : List VP} {o : List Nat} (h : pos ps o < ps.length) : blt (od ps (pos ps o)) o = false := by
 rw [od_at h]
 unfold pos at h ⊢
 simpa using List.findIdx_getElem (xs := ps) (p := fun p => !blt p.1 o) (w := h)
theorem pos_uniq {ps : List VP} {o : List Nat} {i : Nat} (hi : i ≤ ps.length) (h1 : ∀ k, k < i → blt (od ps k) o = true) (h2 : i < ps.length → blt (od ps i) o = false) : pos ps o = i := by
 rcases Nat.lt_trichotomy (pos ps o) i with h | h | h
 · have := h1 _ h
   rw [pos_at (by omega)] at this
   cases this
 · exact h
 · have := pos_before h
   rw [h2 (Nat.lt_of_lt_of_le h (pos_le ps o))] at this
   cases this
def fnd (ps : List VP) (o : List Nat) : Bool := decide (pos ps o < ps.length ∧ od ps (pos ps o) = o)
theorem fnd_yes {ps : List VP} (hs : Srt ps) {o : List Nat} {i : Nat} (hi : i < ps.length) (h : od ps i = o) : pos ps o = i ∧ fnd ps o = true := by
 have e : pos ps o = i := pos_uniq (by omega) (fun k hk => h ▸ hs.lt hk hi) fun _ => by rw [h, blt_irrefl]
 exact ⟨e, by unfold fnd; rw [e]; simpa using ⟨hi, h⟩⟩
theorem fnd_no {ps : List VP} {o : List Nat} (h : ∀ i, i < ps.length → od ps i ≠ o) : fnd ps o = false := by
 unfold fnd
 simp only [decide_eq_false_iff_not, not_and]
 exact fun h1 h2 => h _ h1 h2
theorem fnd_at {ps : List VP} {o : List Nat} (h : fnd ps o = true) : pos ps o < ps.length ∧ od ps (pos ps o) = o := by simpa [fnd] using h
def atV (ps : List VP) (o : List Nat) : Int := if fnd ps o then (pos ps o : Int) else -1
abbrev VV := List VP × List Nat × List Nat
def zeroV : VV := ([], zero32, zero32)
def insV (ps : List VP) (o : List Nat) (t : List Nd) : List VP := ps.take (pos ps o) ++ (o, t) :: ps.drop (pos ps o)
def dropV (ps : List VP) (o : List Nat) : List VP := ps.take (pos ps o) ++ ps.drop (pos ps o + 1)
def setV (ps : List VP) (o : List Nat) (t : List Nd) : List VP := ps.take (pos ps o) ++ (o, t) :: ps.drop (pos ps o + 1)
def ensO (v : VV) (o : List Nat) (t : List Nd) (nx : List Nat) : VV × Int :=
 if vldV v.1 then (if fnd v.1 o then (v, 0) else if 64 ≤ v.1.length then (zeroV, 8) else ((insV v.1 o t, v.2.1, nx), 0)) else (zeroV, 1)
def keyO (ps : List VP) (o : List Nat) (a : Int) : List Nat × Int :=
 if isAddr a && vldV ps then (if fnd ps o then leafOf (tr ps (pos ps o)) a else (zero32, 10)) else (zero32, 1)
def shrO (v : VV) (o : List Nat) (a : Int) : VV × Int :=
 if isAddr a && vldV v.1 then (if fnd v.1 o then (if (punOf (tr v.1 (pos v.1 o)) a).2 = 0 then ((setV v.1 o (punOf (tr v.1 (pos v.1 o)) a).1, v.2.1, v.2.2), 0) else (zeroV, (punOf (tr v.1 (pos v.1 o)) a).2)) else (zeroV, 10)) else (zeroV, 1)
def drpO (v : VV) (o : List Nat) : VV × Int :=
 if vldV v.1 then (if fnd v.1 o then ((dropV v.1 o, v.2.1, v.2.2), 0) else (zeroV, 10)) else (zeroV, 1)
/-! ## The reference: an owner is put at the end and moved down -/
def atPut (ps : List VP) (k : Nat) (x : VP) : List VP := ps.take k ++ x :: ps.drop k
theorem atPut_len {ps : List VP} {k : Nat} (h : k ≤ ps.length) (x : VP) : (atPut ps k x).length = ps.length + 1 := by
 unfold atPut
 rw [List.length_append, List.length_take, List.length_cons, List.length_drop]
 omega
theorem atPut_end (ps : List VP) (x : VP) : atPut ps ps.length x = ps ++ [x] := by simp [atPut]
theorem atPut_get {ps : List VP} {k : Nat} (h : k ≤ ps.length) (x : VP) (i : Nat) : (atPut ps k x)[i]? = if i < k then ps[i]? else if i = k then some x else ps[i - 1]? := by
 unfold atPut
 split
 · rename_i hi
   rw [List.getElem?_append_left (by rw [List.length_take]; omega), List.getElem?_take, if_pos hi]
 · rename_i hi
   rw [List.getElem?_append_right (by rw [List.length_take]; omega), List.length_take, Nat.min_eq_left h]
   split
   · rename_i hk; subst hk; simp
   · rename_i hk
     have : i - k = (i - 1 - k) + 1 := by omega
     rw [this, List.getElem?_cons_succ, List.getElem?_drop]
     congr 1
     omega
theorem atPut_swap {ps : List VP} {k : Nat} (h0 : 0 < k) (h : k ≤ ps.length) (x : VP) (a b : VP) (ha : (atPut ps k x)[k]? = some a) (hb : (atPut ps k x)[k - 1]? = some b) : ((atPut ps k x).set (k - 1) a).set k b = atPut ps (k - 1) x := by
 have hka : a = x := by rw [atPut_get h] at ha; simp at ha; exact ha.symm
 have hkb : ps[k - 1]? = some b := by rw [atPut_get h, if_pos (by omega)] at hb; exact hb
 refine List.ext_getElem? fun i => ?_
 rw [List.getElem?_set, List.getElem?_set, List.length_set, atPut_len h, atPut_get h, atPut_get (by omega)]
 by_cases h1 : k = i
 · subst h1
   rw [if_pos rfl, if_pos (by omega), if_neg (by omega), if_neg (by omega), hkb]
 · rw [if_neg h1]
   by_cases h2 : k - 1 = i
   · rw [if_pos h2, if_pos (by omega), if_neg (by omega), if_pos (by omega), hka]
   · rw [if_neg h2]
     by_cases h3 : i < k
     · rw [if_pos h3, if_pos (by omega)]
     · rw [if_neg h3, if_neg (by omega), if_neg (by omega), if_neg (by omega)]
theorem insV_put (ps : List VP) (o : List Nat) (t : List Nd) : insV ps o t = atPut ps (pos ps o) (o, t) := rfl
theorem put_stop {ps : List VP} (hs : Srt ps) {o : List Nat} (hn : fnd ps o = false) {k : Nat} (hk : k ≤ ps.length) (hafter : ∀ j, k ≤ j → j < ps.length → blt o (od ps j) = true) (hstop : k = 0 ∨ blt o (od ps (k - 1)) = false) : pos ps o = k := by
 refine pos_uniq hk (fun i hi => ?_) fun h => blt_asymm (hafter k (Nat.le_refl k) h)
 rcases hstop with h0 | h0
 · omega
 · have hlast : blt (od ps (k - 1)) o = true := by
     rcases blt_total (od ps (k - 1)) o with e | e | e
     · have := (fnd_yes hs (i := k - 1) (by omega) e).2
       rw [hn] at this
       cases this
     · exact e
     · rw [h0] at e; cases e
   rcases Nat.lt_or_ge i (k - 1) with h1 | h1
   · exact blt_trans (hs.lt h1 (by omega)) hlast
   · have : i = k - 1 := by omega
     subst this
     exact hlast
theorem dropV_erase (ps : List VP) (o : List Nat) : dropV ps o = ps.eraseIdx (pos ps o) := by
 unfold dropV
 rw [List.eraseIdx_eq_take_drop_succ]
theorem setV_set {ps : List VP} {o : List Nat} (t : List Nd) (h : fnd ps o = true) : setV ps o t = ps.set (pos ps o) (o, t) := by
 unfold setV
 rw [List.set_eq_take_append_cons_drop, if_pos (fnd_at h).1]
/-! ## Vaults stay valid -/
theorem od_get {ps qs : List VP} {i j : Nat} (h : ps[i]? = qs[j]?) : od ps i = od qs j ∧ tr ps i = tr qs j := by unfold od tr; rw [h]; exact ⟨rfl, rfl⟩
theorem od_some {ps : List VP} {i : Nat} {x : VP} (h : ps[i]? = some x) : od ps i = x.1 ∧ tr ps i = x.2 := by unfold od tr; rw [h]; exact ⟨rfl, rfl⟩
theorem pos_after {ps : List VP} (hs : Srt ps) {o : List Nat} (hn : fnd ps o = false) {j : Nat} (h : pos ps o ≤ j) (hj : j < ps.length) : blt o (od ps j) = true := by
 have h0 : blt o (od ps (pos ps o)) = true := by
   have hp : pos ps o < ps.length := by omega
   rcases blt_total (od ps (pos ps o)) o with e | e | e
   · have := (fnd_yes hs hp e).2
     rw [hn] at this
     cases this
   · rw [pos_at hp] at e; cases e
   · exact e
 rcases Nat.lt_or_ge (pos ps o) j with h1 | h1
 · exact blt_trans h0 (hs.lt h1 hj)
 · have : pos ps o = j := by omega
   rw [← this]
   exact h0
theorem insV_vld {ps : List VP} {o : List Nat} {t : List Nd} (h : vldV ps = true) (hn : fnd ps o = false) (hl : ps.length < 64) (ht : vld t = true) : vldV (insV ps o t) = true := by
 have hs := Srt.of h
 have hp := pos_le ps o
 have g := atPut_get hp (o, t)
 rw [insV_put]
 have hlen := atPut_len hp (o, t)
 refine vldV_of (by rw [show pos ps (o, t).1 = pos ps o from rfl, hlen]; omega) (fun i hi => ?_) fun i hi => ?_
 · rw [hlen] at hi
   rcases Nat.lt_trichotomy (i + 1) (pos ps o) with h1 | h1 | h1
   · rw [(od_get (qs := ps) (j := i) ((g i).trans (if_pos (by omega)))).1, (od_get (qs := ps) (j := i + 1) ((g (i + 1)).trans (if_pos h1))).1]
     exact hs i (by omega)
   · have hb : blt (od ps i) o = true := pos_before (by omega)
     rw [(od_get (qs := ps) (j := i) ((g i).trans (if_pos (by omega)))).1, (od_some ((g (i + 1)).trans (by rw [if_neg (by omega), if_pos h1]))).1]
     exact hb
   · rcases Nat.lt_or_ge (pos ps o) i with h2 | h2
     · rw [(od_get (qs := ps) (j := i - 1) ((g i).trans (by rw [if_neg (by omega), if_neg (by omega)]))).1, (od_get (qs := ps) (j := i) ((g (i + 1)).trans (by rw [if_neg (by omega), if_neg (by omega)]; rfl))).1]
       exact hs.lt (by omega) (by omega)
     · have : i = pos ps o := by omega
       rw [(od_some ((g i).trans (by rw [if_neg (by omega), if_pos this]))).1, (od_get (qs := ps) (j := i) ((g (i + 1)).trans (by rw [if_neg (by omega), if_neg (by omega)]; rfl))).1]
       exact pos_after hs hn (by omega) (by omega)
 · rw [hlen] at hi
   rcases Nat.lt_trichotomy i (pos ps o) with h1 | h1 | h1
   · rw [(od_get (qs := ps) (j := i) ((g i).trans (if_pos h1))).2]
     exact vldV_trees h (by omega)
   · rw [(od_some ((g i).trans (by rw [if_neg (by omega), if_pos h1]))).2]
     exact ht
   · rw [(od_get (qs := ps) (j := i - 1) ((g i).trans (by rw [if_neg (by omega), if_neg (by omega)]))).2]
     exact vldV_trees h (by omega)
theorem setV_vld {ps : List VP} {o : List Nat} {t : List Nd} (h : vldV ps = true) (hn : fnd ps o = true) (ht : vld t = true) : vldV (setV ps o t) = true := by
 have hs := Srt.of h
 obtain ⟨hp, ho⟩ := fnd_at hn
 rw [setV_set t hn]
 have ho' : ∀ i, i < ps.length → od (ps.set (pos ps o) (o, t)) i = od ps i := by
   intro i hi
   by_cases e : pos ps o = i
   · rw [(od_some (x := (o, t)) (by rw [List.getElem?_set, if_pos e, if_pos (by omega)])).1, ← e, ho]
   · exact (od_get (by rw [List.getElem?_set, if_neg e])).1
 refine vldV_of (by rw [List.length_set]; exact (vldV_iff.1 h).1) (fun i hi => ?_) fun i hi => ?_
 · rw [List.length_set] at hi
   rw [ho' i (by omega), ho' (i + 1) hi]
   exact hs i hi
 · rw [List.length_set] at hi
   by_cases e : pos ps o = i
   · rw [(od_some (x := (o, t)) (by rw [List.getElem?_set, if_pos e, if_pos (by omega)])).2]
     exact ht
   · rw [(od_get (qs := ps) (j := i) (by rw [List.getElem?_set, if_neg e])).2]
     exact vldV_trees h hi
theorem dropV_vld {ps : List VP} {o : List Nat} (h : vldV ps = true) (hn : fnd ps o = true) : vldV (dropV ps o) = true := by
 have hs := Srt.of h
 obtain ⟨hp, ho⟩ := fnd_at hn
 rw [dropV_erase]
 have hl : (ps.eraseIdx (pos ps o)).length = ps.length - 1 := List.length_eraseIdx_of_lt hp
 have g : ∀ i, ∃ j, (ps.eraseIdx (pos ps o))[i]? = ps[j]? ∧ (j = if i < pos ps o then i else i + 1) := fun i => by
   refine ⟨_, ?_, rfl⟩
   rw [List.getElem?_eraseIdx]
   split <;> rfl
 have h64 := (vldV_iff.1 h).1
 refine vldV_of (by omega) (fun i hi => ?_) fun i hi => ?_
 · obtain ⟨j, e1, hj⟩ := g i
   obtain ⟨k, e2, hk⟩ := g (i + 1)
   rw [(od_get e1).1, (od_get e2).1]
   refine hs.lt ?_ ?_
   · split at hj <;> split at hk <;> omega
   · split at hk <;> omega
 · obtain ⟨j, e1, hj⟩ := g i
   rw [(od_get e1).2]
   exact vldV_trees h (by split at hj <;> omega)
end Go.Proofs.Yteakoleceoclkaa
