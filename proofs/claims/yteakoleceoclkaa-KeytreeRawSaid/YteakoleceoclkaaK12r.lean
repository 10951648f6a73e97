/- Key trees: slices.Reverse on nodes. -/
import Derived.Test.YteakoleceoclkaaPP
import Derived.Test.YteakoleceoclkaaQ5
namespace Go.Proofs.Yteakoleceoclkaa
open Go.RowKit Go.Shelf
set_option linter.unusedSimpArgs false
set_option linter.unusedVariables false

theorem dcells_len {l : List Nd} (h : ∀ n ∈ l, Dg n.k) : (tcells l).length = l.length * 34 := by
  induction l with
  | nil => rfl
  | cons x l ih =>
    unfold tcells at *
    rw [List.flatMap_cons, List.length_append, ih (fun n hn => h n (List.mem_cons_of_mem _ hn)), ncells_len _ (h x (List.mem_cons_self ..)).1, List.length_cons]
    omega
theorem dcells_at {l : List Nd} (h : ∀ n ∈ l, Dg n.k) {i : Nat} (hi : i < l.length) : ((tcells l).drop (i * 34)).take 34 = ncells l[i] := by
  induction l generalizing i with
  | nil => simp at hi
  | cons x l ih =>
    have hx := ncells_len _ (h x (List.mem_cons_self ..)).1
    unfold tcells at *
    rw [List.flatMap_cons]
    cases i with
    | zero => rw [Nat.zero_mul, List.drop_zero, List.take_left' hx]; rfl
    | succ i =>
      rw [show (i + 1) * 34 = 34 + i * 34 by omega, ← List.drop_drop, List.drop_left' hx]
      exact ih (fun n hn => h n (List.mem_cons_of_mem _ hn)) (by simpa using hi)
theorem tcells_append (l m : List Nd) : tcells (l ++ m) = tcells l ++ tcells m := by unfold tcells; rw [List.flatMap_append]
theorem tcells_one (n : Nd) : tcells [n] = ncells n := by unfold tcells; simp
theorem tcells_set {l : List Nd} (h : ∀ n ∈ l, Dg n.k) (Z : List Value) {i : Nat} (hi : i < l.length) (x : Nd) (hx : Dg x.k) :
    (tcells l ++ Z).take (i * 34) ++ (ncells x ++ (tcells l ++ Z).drop (i * 34 + (ncells x).length)) = tcells (l.set i x) ++ Z := by
  have hn := ncells_len x hx.1
  rw [hn]
  induction l generalizing i with
  | nil => simp at hi
  | cons y l ih =>
    have hy := ncells_len _ (h y (List.mem_cons_self ..)).1
    have e1 : tcells (y :: l) = ncells y ++ tcells l := by unfold tcells; rw [List.flatMap_cons]
    rw [e1, List.append_assoc]
    cases i with
    | zero =>
      have e2 : tcells ((y :: l).set 0 x) = ncells x ++ tcells l := by unfold tcells; rw [List.set_cons_zero, List.flatMap_cons]
      rw [e2, Nat.zero_mul, List.take_zero, List.nil_append, Nat.zero_add, List.drop_left' hy, List.append_assoc]
    | succ i =>
      have e2 : tcells ((y :: l).set (i + 1) x) = ncells y ++ tcells (l.set i x) := by unfold tcells; rw [List.set_cons_succ, List.flatMap_cons]
      rw [e2, show (i + 1) * 34 = 34 + i * 34 by omega, show 34 + i * 34 + 34 = 34 + (i * 34 + 34) by omega, List.append_assoc, ← ih (fun n hn => h n (List.mem_cons_of_mem _ hn)) (by simpa using hi)]
      have t1 : (ncells y ++ (tcells l ++ Z)).take (34 + i * 34) = ncells y ++ (tcells l ++ Z).take (i * 34) := by
        rw [← hy, List.take_length_add_append]
      have t2 : (ncells y ++ (tcells l ++ Z)).drop (34 + (i * 34 + 34)) = (tcells l ++ Z).drop (i * 34 + 34) := by
        rw [← List.drop_drop, List.drop_left' hy]
      rw [t1, t2, List.append_assoc]
/-- a list whose first k and last k have changed their places -/
def Rvd (R L : List Nd) (k : Nat) : Prop := L.length = R.length ∧ ∀ j, L[j]? = if j < k ∨ (R.length - k ≤ j) then R.reverse[j]? else R[j]?
theorem Rvd.zero (R : List Nd) : Rvd R R 0 := ⟨rfl, fun j => by
  by_cases h : R.length ≤ j
  · rw [if_pos (.inr (by omega)), List.getElem?_eq_none (by simpa using h), List.getElem?_eq_none (by simpa using h)]
  · rw [if_neg (by omega)]⟩
theorem Rvd.step {R L : List Nd} {k : Nat} (h : Rvd R L k) (hk : k + 1 < R.length - k) (hi : k < L.length) (hj : R.length - 1 - k < L.length) : Rvd R ((L.set k L[R.length - 1 - k]).set (R.length - 1 - k) L[k]) (k + 1) := by
  obtain ⟨h1, h2⟩ := h
  refine ⟨by simp [h1], fun j => ?_⟩
  have a1 := h2 k
  have a2 := h2 (R.length - 1 - k)
  rw [if_neg (by omega), List.getElem?_eq_getElem hi, List.getElem?_eq_getElem (show k < R.length by omega)] at a1
  rw [if_neg (by omega), List.getElem?_eq_getElem hj, List.getElem?_eq_getElem (show R.length - 1 - k < R.length by omega)] at a2
  have b1 := Option.some.inj a1
  have b2 := Option.some.inj a2
  rw [List.getElem?_set, List.getElem?_set]
  by_cases e1 : R.length - 1 - k = j
  · subst e1
    rw [if_pos rfl, if_pos (by simp; omega), if_pos (.inr (by omega)), List.getElem?_reverse (by omega), b1, show R.length - 1 - (R.length - 1 - k) = k by omega, List.getElem?_eq_getElem (by omega)]
  · rw [if_neg e1]
    by_cases e2 : k = j
    · subst e2
      rw [if_pos rfl, if_pos hi, if_pos (.inl (by omega)), List.getElem?_reverse (by omega), b2, List.getElem?_eq_getElem (by omega)]
    · rw [if_neg e2, h2 j]
      by_cases e3 : j < k ∨ R.length - k ≤ j
      · rw [if_pos e3, if_pos (by omega)]
      · rw [if_neg e3, if_neg (by omega)]
theorem Rvd.done {R L : List Nd} {k : Nat} (h : Rvd R L k) (hk : R.length ≤ 2 * k + 1) : L = R.reverse := by
  obtain ⟨h1, h2⟩ := h
  refine List.ext_getElem? fun j => ?_
  rw [h2 j]
  split
  · rfl
  · rename_i hn
    by_cases hj : j < R.length
    · rw [List.getElem?_reverse hj, show R.length - 1 - j = j by omega]
    · omega
theorem Rvd.mem {R L : List Nd} {k : Nat} (h : Rvd R L k) : ∀ n ∈ L, n ∈ R := fun n hn => by
  obtain ⟨j, hj⟩ := List.getElem?_of_mem hn
  rw [h.2 j] at hj
  split at hj
  · exact List.mem_reverse.1 (List.mem_of_getElem? hj)
  · exact List.mem_of_getElem? hj
theorem tcells_mid {l : List Nd} (h : ∀ n ∈ l, Dg n.k) (Z : List Value) {i : Nat} (hi : i < l.length) : (((tcells l ++ Z).toArray.toList.drop (i * 34)).take (ncells l[i]).length) = ncells l[i] := by
  have hl := dcells_len h
  rw [ncells_len _ (h l[i] (List.getElem_mem hi)).1, List.toList_toArray, List.drop_append_of_le_length (by rw [hl]; omega), List.take_append_of_le_length (by rw [List.length_drop, hl]; omega)]
  exact dcells_at h hi
set_option maxRecDepth 100000 in
set_option maxHeartbeats 4000000 in
theorem rev_walk (R : List Nd) (hR : ∀ n ∈ R, Dg n.k) (v : Value) (w : World) (hb : R.length ≤ 1000000) (hO : Own w 91 34 v R.length (tcells R)) :
    Calls Try.prog 86 #[v] w fun e w' => e = .returned (.tuple #[]) ∧ Own w' 91 34 v R.length (tcells R.reverse) ∧ w.grownBy w' v.ownBlock := by
  have HR := hid hR
  obtain ⟨m, hm⟩ : ∃ m, m = R.length := ⟨_, rfl⟩
  have HM := hid hm
  rw [← hm] at hb
  obtain ⟨ho1, ho2⟩ := hO
  rcases ho2 with ⟨rfl, hx⟩ | ⟨g, cap, cur, rfl, hgb, hg, hcap, hcap2, hsz, htk⟩
  · have hnil := List.eq_nil_of_length_eq_zero hx
    subst hnil
    clear HR HM hb hm hx ho1 hR
    go_enter Try.func86, Try.ntmps86
    go_wp2
    refine wp_loop_rounds 1 ?_
    rw [rounds_succ]
    go_wp2
    go_end0
    exact ⟨rfl, World.ownsRow_nil _ _ _ _, World.grownBy.refl _ _⟩
  · obtain ⟨Z, hZ⟩ : ∃ Z, Z = cur.toList.drop (R.length * 34) := ⟨_, rfl⟩
    have hcur : cur = (tcells R ++ Z).toArray := by
      apply Array.ext'
      rw [List.toList_toArray, hZ, ← htk, List.take_append_drop]
    have HG := hid (show w.heap[g]? = some (.cells (tcells R ++ Z).toArray 91 (0, 0)) by rw [← hcur]; exact hg)
    have HF := hid (show ∀ L : List Nd, L.length = R.length → (∀ n ∈ L, Dg n.k) → ∀ w', w'.heap[g]? = some (.cells (tcells L ++ Z).toArray 91 (0, 0)) → Own w' 91 34 (.slice (some ⟨g, 0, none⟩) R.length cap) R.length (tcells L) from fun L hL hLd w' hw => by
      have e1 := dcells_len hLd
      have e2 := dcells_len HR.out
      refine ⟨by rw [e1, hL], .inr ⟨g, cap, _, rfl, Nat.zero_le _, hw, hcap, hcap2, ?_, ?_⟩⟩
      · have e3 : (tcells R ++ Z).length = cap * 34 := by rw [← hsz, hcur, List.size_toArray]
        rw [List.length_append] at e3
        rw [List.size_toArray, List.length_append, e1, hL, ← e2]
        exact e3
      · rw [List.toList_toArray, ← hL, ← e1, List.take_left])
    have p1 : m ≤ cap := by rw [hm]; exact hcap
    rw [← hm] at HF ⊢
    clear hR hm hgb hg hcap hcap2 hsz htk hZ hcur ho1
    go_enter Try.func86, Try.ntmps86
    go_wp2
    go_loopw [2, 3] (fun i j wr => ∃ (k : Nat) (L : List Nd), k ≤ m ∧ i = .int .i64 k ∧ j = .int .i64 ((m : Int) - 1 - k) ∧ Hid (Rvd R L k) ∧ Hid (w.grownBy wr (some g)) ∧ Hid (wr.heap[g]? = some (.cells (tcells L ++ Z).toArray 91 (0, 0)))) (fun i _ _ => (m - intOf i).toNat)
    case atStart => exact ⟨0, R, by omega, rfl, by simp, hid (Rvd.zero R), hid (World.grownBy.refl _ _), HG⟩
    case round =>
      clear HG
      obtain ⟨k, L, hk, rfl, rfl, HV, HGR, HG⟩ := hrel
      by_cases hlt : k + 1 < m - k
      · obtain ⟨jn, hjn⟩ : ∃ jn : Nat, jn = m - 1 - k := ⟨_, rfl⟩
        have hj1 : (m : Int) - 1 - (k : Int) = (jn : Int) := by omega
        have HJ := hid hjn
        have HLT := hid hlt
        have hLl : L.length = m := by rw [HV.out.1, HM.out]
        have HLL := hid hLl
        have kl : k < L.length := by omega
        have jl : jn < L.length := by omega
        have HLD := hid (show ∀ n ∈ L, Dg n.k from fun n hn => HR.out n (HV.out.mem n hn))
        obtain ⟨xk, hxk⟩ : ∃ x, x = L[k] := ⟨_, rfl⟩
        obtain ⟨xj, hxj⟩ : ∃ x, x = L[jn] := ⟨_, rfl⟩
        have dk : Dg xk.k := by rw [hxk]; exact HLD.out _ (List.getElem_mem kl)
        have dj : Dg xj.k := by rw [hxj]; exact HLD.out _ (List.getElem_mem jl)
        have HDK := hid dk
        have HDJ := hid dj
        have TK := hid (tyN xk dk.1)
        have TJ := hid (tyN xj dj.1)
        have RK := hid (show wr.rangeAt g (k * 34) (ncells xk) by rw [hxk]; exact range_row HG.out _ _ (tcells_mid HLD.out Z kl))
        have RJ := hid (show wr.rangeAt g (jn * 34) (ncells xj) by rw [hxj]; exact range_row HG.out _ _ (tcells_mid HLD.out Z jl))
        have HST := hid (show Rvd R ((L.set k xj).set jn xk) (k + 1) by
          subst hxk hxj hjn
          have e : m - 1 - k = R.length - 1 - k := by rw [HM.out]
          have := HV.out.step (by rw [← HM.out]; exact hlt) kl (by rw [← e]; exact jl)
          simp only [e]
          exact this)
        have i0 : (0 : Int) ≤ (k : Int) := by omega
        have i1 : (k : Int) < (m : Int) := by omega
        have i2 : (0 : Int) ≤ (jn : Int) := by omega
        have i3 : (jn : Int) < (m : Int) := by omega
        have t1 : decide (k < jn) = true := by simp; omega
        rw [hj1]
        clear hjn hlt hLl kl jl hxk hxj dk dj
        go_wp2
        refine wp_region_any (by kernel_rfl) ?_
        change wpAny _ _ _ _ 16 (Array.replicate 16 false) _ _
        refine wpAny_move (i := 0) rfl (by kernel_rfl) (by kernel_rfl) (by kernel_rfl) (fun _ _ _ h => h) rfl _ rfl rfl ?_
        refine wpAny_move (i := 1) rfl (by kernel_rfl) (by kernel_rfl) (by kernel_rfl) (fun _ _ _ h => h) rfl _ rfl rfl ?_
        refine wpAny_move (i := 2) rfl (by kernel_rfl) (by kernel_rfl) (by kernel_rfl) (fun _ _ _ h => h) rfl _ rfl rfl ?_
        refine wpAny_move (i := 3) rfl (by kernel_rfl) (by kernel_rfl) (by kernel_rfl) (fun _ _ _ h => h) rfl _ rfl rfl ?_
        simp only [Act.put, List.setIfInBounds_toArray, List.set_cons_zero, List.set_cons_succ]
        obtain ⟨w5, hw5⟩ : ∃ x, x = ({ wr with drawn := wr.drawn + 1 } : World) := ⟨_, rfl⟩
        have g5 : wr.grownBy w5 none := by rw [hw5]; exact grown_drew wr
        rw [← hw5]
        have HG5 := hid g5
        have RK := hid (rangeAt_kept RK.out g5)
        have RJ := hid (rangeAt_kept RJ.out g5)
        clear hw5 g5
        refine wpAny_heads 12 [4, 5, 6, 7, 8, 9, 10, 11] (by kernel_rfl) (by decide) (by kernel_rfl) (by kernel_rfl) (by kernel_rfl) (by kernel_rfl) (by kernel_rfl) ?_
        simp only [List.filterMap_cons, List.filterMap_nil, List.getElem?_toArray, List.getElem?_cons_succ, List.getElem?_cons_zero, List.drop_succ_cons, List.drop_zero]
        have HL1 := hid (show ∀ w', (∃ s : Gw w5, w' = s.val) → (Instr.loadAt 91 (.pointer (some ⟨g, k * 34, none⟩))).run Try.prog w' = .ok (nval xk) w' from fun w' ⟨s, e⟩ => by subst e; exact loadsAt TK.out (rangeAt_kept RK.out s.g))
        have HL2 := hid (show ∀ w', (∃ s : Gw w5, w' = s.val) → (Instr.loadAt 91 (.pointer (some ⟨g, jn * 34, none⟩))).run Try.prog w' = .ok (nval xj) w' from fun w' ⟨s, e⟩ => by subst e; exact loadsAt TJ.out (rangeAt_kept RJ.out s.g))
        iterate 3 (quiet_step (fail))
        refine wpQuiet_load rfl 91 (.tmp 20) rfl rfl HL2.out ?_
        iterate 3 (quiet_step (fail))
        refine wpQuiet_load rfl 91 (.tmp 24) rfl rfl HL1.out ?_
        refine wpQuiet_nil ?_
        rintro _ ⟨s, rfl⟩
        have B2 := hid (row_of s.g (row_of HG5.out HG.out (by simp)) (by simp))
        have GS := hid (grown_trans HG5.out s.g)
        generalize s.val = W3 at *
        clear HL1 HL2
        go_wp2_with (first
          | (refine wpList_storeAt rfl 91 (.tmp 26) (.tmp 21) rfl rfl rfl TJ.out B2.out (by have := HLL.out; have := HLT.out; rw [List.length_append, dcells_len HLD.out, ncells_len _ HDJ.out.1]; omega) ?_; intro W5 g5 h5; rw [tcells_set HLD.out Z (by have := HLL.out; have := HLT.out; omega) xj HDJ.out] at h5; have H5 := hid h5; have G5 := hid g5; clear g5 h5)
          | (refine wpList_storeAt rfl 91 (.tmp 27) (.tmp 25) rfl rfl rfl TK.out H5.out (by have := HLL.out; have := HLT.out; have := HJ.out; rw [List.length_append, dcells_len (l := L.set k xj) (fun n hn => (List.mem_or_eq_of_mem_set hn).elim (HLD.out n) (fun e => e ▸ HDJ.out)), List.length_set, ncells_len _ HDK.out.1]; omega) ?_; intro W6 g6 h6; rw [tcells_set (l := L.set k xj) (fun n hn => (List.mem_or_eq_of_mem_set hn).elim (HLD.out n) (fun e => e ▸ HDJ.out)) Z (by have := HLL.out; have := HLT.out; have := HJ.out; rw [List.length_set]; omega) xk HDK.out] at h6; have H6 := hid h6; have G6 := hid g6; clear g6 h6)
          | fail)
        go_roundw
        case rel => exact ⟨k + 1, _, by omega, by go_num, congrArg _ (by omega), HST, hid (grown_trans (grown_trans HGR.out (grown_none GS.out)) (grown_trans G5.out G6.out)), H6⟩
        case measure => simp [intOf]; omega
      · have t1 : decide ((k : Int) < (m : Int) - 1 - (k : Int)) = false := by simp; omega
        go_wp2
        go_end0
        obtain rfl := HV.out.done (by rw [← HM.out]; omega)
        exact ⟨rfl, HF.out R.reverse (by rw [List.length_reverse, ← HM.out]) (fun n hn => HR.out n (List.mem_reverse.1 hn)) _ HG.out, HGR.out⟩
end Go.Proofs.Yteakoleceoclkaa
