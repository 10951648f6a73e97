/- Key trees: the iterator over a tree's nodes. -/
import Derived.Test.YteakoleceoclkaaK3
import Derived.Test.YteakoleceoclkaaQ3
import Derived.Shelf.Abstract
import Derived.Shelf.RegionOpen
import Derived.OwnWalkIn
import Derived.TacticsInMore
import Derived.LoopNIn
import Derived.LoopIn
namespace Go.Proofs.Yteakoleceoclkaa
open Go.RowKit Go.Shelf
set_option linter.unusedSimpArgs false
set_option linter.unusedVariables false
attribute [local go_sem] Oper.semAt_some

section
variable {P : Program} {ops : Array Oper} {md : Region.Mode} {C : World → Prop} {ro : Option Nat} {n : Nat}
theorem wpOpIn_of_qOp {Q' : Exit → Act → World → Prop} {i : Nat} {a : Act} {K : Act → Prop} {K' : Act → World → Prop} {w : World} (hd : noDefer ops.toList = true) (hC : C w) (h : ∀ a w', C w' → K a → K' a w') (hh : qOp P ops C i K a) : wpOpIn (Wd ro) n P ops Q' i K' a w := by
  unfold qOp at hh
  unfold wpOpIn
  split
  · rename_i ho; simp only [ho] at hh; exact h _ _ hC hh
  · rename_i o ho
    simp only [ho] at hh
    have hm : o ∈ ops.toList := by
      have := Array.mem_of_getElem? ho
      simpa using this
    split
    · rename_i hw; simp only [hw, if_true] at hh; exact oper_in (noDefer_spec hd hm) (Oper.wp_of_quiet hC h hh)
    · rename_i hw; simp only [hw] at hh; exact ⟨fun _ _ => trivial, h _ _ hC hh⟩
theorem wpAnyIn_of_headQ {k g : Nat} {L : Array Bool → Act → Prop} {Q' : Exit → Act → World → Prop} (hd : noDefer ops.toList = true) (hL : ∀ listed a w, C w → L listed a → wpAnyIn (Wd ro) n P md ops Q' g listed a w) :
    ∀ (f : Nat) (listed : Array Bool) (a : Act) (w : World), C w → wpHeadQ P md ops C k L f listed a → wpAnyIn (Wd ro) n P md ops Q' (f + g) listed a w
  | 0, listed, a, w, hw, h => by rw [Nat.zero_add]; exact hL _ _ _ hw h
  | f + 1, listed, a, w, hw, h => by
    rw [show f + 1 + g = (f + g) + 1 by omega]
    exact ⟨fun h0 => absurd h0 h.1, fun i hi => wpOpIn_of_qOp hd hw (fun a' w' hw' h' => wpAnyIn_of_headQ hd hL f _ a' w' hw' h') (h.2 i hi).2⟩
theorem wpAnyIn_of_seq {Q' : Exit → Act → World → Prop} : ∀ (l : List Oper) (k : Nat) (listed : Array Bool) (a : Act) (w : World), (∀ j, l[j]? = ops[k + j]?) →
    Region.seqB md ops l.length k listed = true → wpListIn (Wd ro) n P ops Q' l a w → wpAnyIn (Wd ro) n P md ops Q' l.length listed a w
  | [], _, _, _, _, _, hB, h => ⟨by simpa [Region.seqB] using hB, h⟩
  | o :: l, k, listed, a, w, hl, hB, h => by
    have h0 : ops[k]? = some o := by simpa using (hl 0).symm
    simp only [List.length_cons, Region.seqB, Bool.and_eq_true, decide_eq_true_eq] at hB
    refine ⟨fun h1 => (by rw [hB.1] at h1; cases h1), fun i hi => ?_⟩
    rw [hB.1] at hi
    have hik : i = k := by simpa using hi
    subst hik
    have hw : wpOpIn (Wd ro) n P ops Q' i (wpListIn (Wd ro) n P ops Q' l) a w := by unfold wpOpIn; simp only [h0]; exact h
    exact wpOpIn_mono (fun a' w' h' => wpAnyIn_of_seq l (i + 1) _ a' w' (fun j => by have := hl (j + 1); simpa [Nat.add_assoc, Nat.add_comm 1 j] using this) hB.2 h') hw
/-- quiet operations ahead, a tail by the fenced laws -/
theorem region_grown_tailIn {id : Nat} {Q : Exit → Act → World → Prop} {a : Act} {w : World} {l : List Oper} (k : Nat) (hd : noDefer l = true) (hm : P.follows .mixedOrders = true) (hB : Region.lexTailB .any l.toArray k = true)
    (h : wpQuiet P l.toArray (fun w' => ∃ s : Gw w, w' = s.val) (fun a' => ∀ w', (∃ s : Gw w, w' = s.val) → wpListIn (Wd ro) n P l.toArray Q (l.drop k) a' w') (l.take k) a) : (Code.region id l.toArray true).wpIn (Wd ro) n P Q a w := by
  simp only [Region.lexTailB, Bool.and_eq_true, decide_eq_true_eq] at hB
  obtain ⟨⟨⟨⟨hsel, hn⟩, hs⟩, hc⟩, hlex⟩ := hB
  have hn' : k < l.length := by simpa using hn
  have htl : (l.take k).length = k := by simp; omega
  have hdl : (l.drop k).length = l.toArray.size - k := by simp
  have inv0 : HeadInv .any l.toArray k (Array.replicate l.toArray.size false) :=
    ⟨by simp, fun j oj _ hl => (by rw [getD_replicate_false] at hl; cases hl), fun t _ ht => getD_in (by simpa using ht) (getD_replicate_false _ _)⟩
  have H := wpHeadQ_lex (md := .any) (g := l.toArray.size - k) hsel hs hc hn (l.take k) 0 _ a (fun j hj => by
    have hj' : j < k := by rw [htl] at hj; exact hj
    simp [hj']) (by simpa using htl) inv0 (by rw [htl]; exact hlex) h
  refine wpIn_region_any hm ?_
  have := wpAnyIn_of_headQ (ro := ro) (n := n) (Q' := Q) (g := l.toArray.size - k) (by simpa using hd) (fun listed a' w' hw' hL => by
    have := wpAnyIn_of_seq (ro := ro) (n := n) (md := .any) (Q' := Q) (l.drop k) k listed a' w' (fun j => by simp [List.getElem?_drop]) (by rw [hdl]; exact hL.1) (hL.2 w' hw')
    rwa [hdl] at this) _ _ _ { w with drawn := w.drawn + 1 } ⟨⟨_, grown_drew w⟩, rfl⟩ H
  rw [htl, show k + (l.toArray.size - k) = l.toArray.size by omega] at this
  exact this
end
/-- a node as the program may hold it -/
def Nok (n : Nd) : Prop := Dg n.k ∧ (-9223372036854775808 ≤ n.d ∧ n.d ≤ 9223372036854775807) ∧ (-9223372036854775808 ≤ n.p ∧ n.p ≤ 9223372036854775807)
abbrev NdK := { n : Nd // Nok n }
def encN (x : NdK) : Array Value := #[sval2 (span x.1), nval x.1]
def tcells (l : List Nd) : List Value := l.flatMap ncells
theorem tcells_len {l : List Nd} (h : ∀ n ∈ l, Nok n) : (tcells l).length = l.length * 34 := by
  induction l with
  | nil => rfl
  | cons x l ih =>
    unfold tcells at *
    rw [List.flatMap_cons, List.length_append, ih (fun n hn => h n (List.mem_cons_of_mem _ hn)), ncells_len _ (h x (List.mem_cons_self ..)).1.1, List.length_cons]
    omega
theorem tcells_at {l : List Nd} (h : ∀ n ∈ l, Nok n) {i : Nat} (hi : i < l.length) : ((tcells l).drop (i * 34)).take 34 = ncells l[i] := by
  induction l generalizing i with
  | nil => simp at hi
  | cons x l ih =>
    have hx := ncells_len _ (h x (List.mem_cons_self ..)).1.1
    unfold tcells at *
    rw [List.flatMap_cons]
    cases i with
    | zero => rw [Nat.zero_mul, List.drop_zero, List.take_left' hx]; rfl
    | succ i =>
      rw [show (i + 1) * 34 = 34 + i * 34 by omega, ← List.drop_drop, List.drop_left' hx]
      exact ih (fun n hn => h n (List.mem_cons_of_mem _ hn)) (by simpa using hi)
/-- a slice reads as nodes -/
def RdN (w : World) (s : Value) (l : List Nd) : Prop := Sl w 34 s l.length (tcells l) ∧ ∀ n ∈ l, Nok n
theorem RdN.kn {w w' : World} {s : Value} {l : List Nd} (h : RdN w s l) (g : w.grownBy w' none) : RdN w' s l := ⟨Sl.kn h.1 g, h.2⟩
theorem RdN.range {w : World} {ao : Option Addr} {n cap : Nat} {l : List Nd} (h : RdN w (.slice ao n cap) l) {i : Nat} (hi : i < l.length) : ∃ b off, ao = some ⟨b, off, none⟩ ∧ w.rangeAt b (off + i * 34) (ncells l[i]) := by
  have hl := tcells_len h.2
  obtain ⟨b, off, hb, hc⟩ := Sl.at h.1 0 (by rw [hl]; omega)
  refine ⟨b, off, hb, fun j v hj => ?_⟩
  have hjl := (List.getElem?_eq_some_iff.1 hj).1
  have hx := ncells_len _ (h.2 l[i] (List.getElem_mem hi)).1.1
  have hk : i * 34 + j < (tcells l).length := by rw [hl]; omega
  rw [Nat.add_assoc, hc _ hk]
  rw [← tcells_at h.2 hi, List.getElem?_take, if_pos (by omega), List.getElem?_drop, List.getElem?_eq_getElem hk] at hj
  exact hj
theorem results_none' {P : Program} {fn : Func} (h : fn.results = #[]) (tmps : Array Value) (w : World) : (results fn tmps).run P w = .ok (.tuple #[]) w := by simp [results, h]
set_option maxRecDepth 100000 in
set_option maxHeartbeats 4000000 in
theorem walk1_stops (n n0 Bx : Nat) (l : List NdK) (s : Value) (w : World) (hB : w.cell? ⟨Bx, 0, none⟩ = some s) (hs : RdN w s (l.map (·.1))) (hl : l.length ≤ 1099511627776) (hn0 : ∀ k, s.ownBlock = some k → k < n0) (hw : n0 ≤ w.heap.size) :
    SeqStopsK Fence.wide n Try.prog 84 #[.pointer (some ⟨Bx, 0, none⟩)] encN (Below n0) (fun xs => xs = l) (fun pre => pre <+: l) l.length w := fun lp J Jx W hW hJ hJx hY h0 => by
  have hBW := hW.cell (p := ⟨Bx, 0, none⟩) (block_lt_of_cell hB)
  rw [hB] at hBW
  have hsW : RdN W s (l.map (·.1)) := ⟨Sl.below hs.1 hW (fun k hk => Nat.lt_of_lt_of_le (hn0 k hk) hw), hs.2⟩
  obtain ⟨ao, cap, rfl, p1, p2⟩ := Sl.shape hsW.1
  rw [List.length_map] at p1
  have HY := hid hY
  have y0 := block_lt_of_cell hBW
  have HL := hid (show (l.map (·.1)).length = l.length from List.length_map _)
  obtain ⟨m, hm⟩ : ∃ m, m = (l.map (·.1)).length := ⟨_, rfl⟩
  rw [← hm] at hBW HL
  have p0 : m ≤ cap := by rw [HL.out]; exact p1
  have m0 : m ≤ 1099511627776 := by rw [HL.out]; exact hl
  have HS := hid (show RdN W (.slice ao m cap) (l.map (·.1)) by rw [hm]; exact hsW)
  have HN := hid (show ∀ k, (Value.slice ao m cap).ownBlock = some k → k < n0 by rw [hm]; exact hn0)
  refine callsIn_of_wp Try.func84 rfl trivial ?_ rfl
  simp only [Try.ntmps84, List.size_toArray, List.length_cons, List.length_nil, Nat.reduceAdd, Nat.reduceSub, Array.replicate_succ, Array.replicate_zero, List.push_toArray, List.append_toArray, List.nil_append, List.cons_append]
  refine wpIn_wide.2 ?_
  have hWs := hW.size
  clear hY hs hsW hn0 hB hm hW hl p1
  go_wp2
  go_loopw [8] (fun i wr => ∃ k : Nat, k ≤ m ∧ i = .int .i64 k ∧ Hid (J (l.take k) wr) ∧ Hid (Below n0 W wr)) (fun i _ => (m - intOf i).toNat)
  case atStart => exact ⟨0, by omega, rfl, hid h0, hid (Below.refl _ _)⟩
  case round =>
    clear hBW y0
    obtain ⟨k, hk, rfl, HJ, HBl⟩ := hrel
    by_cases hlt : k < m
    · have hkl : k < l.length := by rw [← HL.out]; exact hlt
      have hkl2 : k < (l.map (·.1)).length := by simpa using hkl
      have hsr : RdN wr (.slice ao m cap) (l.map (·.1)) := ⟨Sl.below HS.out.1 HBl.out HN.out, HS.out.2⟩
      obtain ⟨b, off, rfl, hrg⟩ := hsr.range hkl2
      have HX := hid (show (l.map (·.1))[k] = (l[k]).1 by simp)
      rw [HX.out] at hrg
      have HRG := hid hrg
      have HTK := hid (show l.take (k + 1) = l.take k ++ [l[k]] from List.take_succ_eq_append_getElem hkl)
      have HYk := hid (fun W1 h => HY.out (l.take k) l[k] W1 h (by rw [List.length_take]; omega))
      have HNK := hid (l[k]).2
      generalize l[k] = x at *
      have TN := hid (tyN x.1 HNK.out.1.1)
      have i0 : (0 : Int) ≤ (k : Int) := by omega
      have i1 : (k : Int) < (m : Int) := by omega
      clear hsr hrg hkl hkl2 HX
      have NL := hid (ncells_len x.1 HNK.out.1.1)
      go_wp2_with (first
        | (refine wpList_loadAt rfl 91 (.tmp 10) rfl rfl TN.out HRG.out ?_)
        | (refine wpList_storeTYg rfl 91 (.tmp 4) (.tmp 11) rfl rfl rfl TN.out (heap_at rfl) (by rw [NL.out]; rfl) ?_; intro W2 g2 h2; have G2 := hid (grown_newR (World.grownBy_alloc wr _ none) g2 (Nat.le_refl _)); have H2 := hid h2; clear g2 h2)
        | fail)
      go_frame
      refine (wpIn_wide (n := n)).1 ?_
      change (Code.region _ _ _).wpIn (Wd none) n _ _ _ _
      refine region_grown_tailIn (ro := none) 4 (by kernel_rfl) (by kernel_rfl) (by kernel_rfl) ?_
      simp only [List.take_succ_cons, List.take_zero, List.drop_succ_cons, List.drop_zero]
      have HLD := hid (show ∀ w', (∃ s : Gw W2, w' = s.val) → (Instr.loadAt 91 (.pointer (some ⟨wr.heap.size, 0, none⟩))).run Try.prog w' = .ok (nval x.1) w' from fun w' ⟨s, e⟩ => by subst e; exact loadsAt TN.out (rangeAt_row (row_of s.g H2.out (by simp))))
      quiet_step (fail)
      refine wpQuiet_load rfl 91 (.tmp 4) rfl rfl HLD.out ?_
      quiet_step ((exact Calls.grown_of (spanOf_walk x.1 HNK.out.1 HNK.out.2.1 HNK.out.2.2 _)))
      refine wpQuiet_load rfl 91 (.tmp 4) rfl rfl HLD.out ?_
      refine wpQuiet_nil ?_
      rintro _ ⟨s, rfl⟩
      have GS := hid (grown_trans G2.out s.g)
      generalize s.val = W3 at *
      obtain ⟨fn, tmps, assign, body, hy, hR⟩ := HYk.out W3 (hJ _ _ _ none HJ.out GS.out (fun r e => by cases e))
      dsimp only [encN] at hy
      gi_wp2
      refine ⟨fun h => (by simp [Fence.wide] at h), ?_⟩
      refine hR.mono ?_
      have HKB := hid (HBl.out.grown GS.out (Nat.le_trans hw (Nat.le_trans hWs HBl.out.size)) (fun k e => by cases e))
      rintro e W4 (⟨rfl, hJ4, hk4⟩ | ⟨rfl, hJx4⟩)
      · have HJ4 := hid hJ4
        have HK4 := hid (HKB.out.trans hk4)
        clear hJ4 hk4
        gi_wp2
        go_wp2
        go_roundw
        case rel => exact ⟨k + 1, by omega, by go_num, hid (by rw [HTK.out]; exact HJ4.out), HK4⟩
        case measure => simp [intOf]; omega
      · have HJ4 := hid hJx4
        clear hJx4
        gi_wp2
        go_wp2
        refine bodyPost_ret (results_none' rfl _ _) rfl ?_
        exact ⟨⟨_, rfl⟩, .inr ⟨l.take (k + 1), List.take_prefix _ _, by rw [HTK.out]; exact HJ4.out⟩⟩
    · obtain rfl : k = m := by omega
      go_wp2
      go_end0
      exact ⟨⟨_, rfl⟩, .inl ⟨l, rfl, by have := HJ.out; rwa [List.take_of_length_le (by rw [HL.out]; exact Nat.le_refl _)] at this⟩⟩
end Go.Proofs.Yteakoleceoclkaa
