/- Gaps: sorting by insertion, and the intervals of a sorted list. -/
import Derived.Test.YteakoleceoclkaaSI
import Derived.Test.YteakoleceoclkaaSJ
import Derived.OrdersHeld
namespace Go.Proofs.Yteakoleceoclkaa
open Go.RowKit
set_option linter.unusedSimpArgs false
set_option linter.unusedVariables false

def gd (l : List Int) (j : Nat) : Int := l.getD j 0
theorem gd_at {l : List Int} {j : Nat} (h : j < l.length) : gd l j = l[j] := by unfold gd; rw [List.getD_eq_getElem?_getD, List.getElem?_eq_getElem h]; rfl
theorem gd_is {l : List Int} {j : Nat} {x : Int} {h : j < l.length} (e : l[j]'h = x) : gd l j = x := (gd_at h).trans e
theorem gd_set {l : List Int} {i j : Nat} {v : Int} (hi : i < l.length) : gd (l.set i v) j = if i = j then v else gd l j := by
  unfold gd
  rw [List.getD_eq_getElem?_getD, List.getElem?_set]
  split
  · rename_i h; subst h; first | rfl | (rw [if_pos hi]; rfl)
  · rfl
/-- the first i numbers ascend -/
def InvS (l : List Int) (i : Nat) : Prop := ∀ p q, p < q → q < i → gd l p < gd l q
/-- so do those up to i, but for the k-th, which is too far behind at most -/
def InvK (l : List Int) (i k : Nat) : Prop := ∀ p q, p < q → q ≤ i → q ≠ k → gd l p < gd l q
theorem InvS.one (l : List Int) : InvS l 1 := fun p q h1 h2 => by omega
theorem InvK.start {l : List Int} {i : Nat} (h : InvS l i) : InvK l i i := fun p q h1 h2 h3 => h p q h1 (by omega)
theorem InvK.swap {l : List Int} {i k : Nat} (h : InvK l i k) (hk : 0 < k) (hki : k ≤ i) (hil : i < l.length) {x y : Int} (hx : gd l (k - 1) = x) (hy : gd l k = y) (hgt : y < x) : InvK ((l.set (k - 1) y).set k x) i (k - 1) := by
  have e : ∀ j, gd ((l.set (k - 1) y).set k x) j = if k = j then x else if k - 1 = j then y else gd l j := fun j => by
    rw [gd_set (by rw [List.length_set]; omega), gd_set (by omega)]
  intro p q h1 h2 h3
  rw [e, e]
  by_cases q1 : k = q
  · subst q1
    rw [if_neg (by omega), if_pos rfl]
    by_cases p1 : k - 1 = p
    · rw [if_pos p1]; exact hgt
    · rw [if_neg p1, ← hx]; exact h p (k - 1) (by omega) (by omega) (by omega)
  · rw [if_neg (show ¬ k = q from q1), if_neg (show ¬ k - 1 = q from fun e => h3 e.symm)]
    by_cases p1 : k = p
    · subst p1
      rw [if_pos (show k = k from rfl), ← hx]
      exact h (k - 1) q (by omega) h2 (by omega)
    · rw [if_neg p1]
      by_cases p2 : k - 1 = p
      · rw [if_pos p2, ← hy]
        by_cases q2 : k < q
        · exact h k q q2 h2 (by omega)
        · omega
      · rw [if_neg p2]
        exact h p q h1 h2 (fun e => q1 e.symm)
theorem InvK.stop {l : List Int} {i k : Nat} (h : InvK l i k) (hki : k ≤ i) (hil : i < l.length) (hn : l.Nodup) (hs : k = 0 ∨ ¬ gd l k < gd l (k - 1)) : InvS l (i + 1) := by
  intro p q h1 h2
  by_cases hq : q = k
  · subst hq
    rcases hs with rfl | hs
    · omega
    · have hne : gd l (q - 1) ≠ gd l q := by
        rw [gd_at (by omega), gd_at (by omega)]
        intro e
        exact (List.pairwise_iff_getElem.1 hn) (q - 1) q (by omega) (by omega) (by omega) e
      have h3 : gd l (q - 1) < gd l q := by omega
      by_cases hp : p = q - 1
      · rw [hp]; exact h3
      · exact Int.lt_trans (h p (q - 1) (by omega) (by omega) (by omega)) h3
  · exact h p q h1 (by omega) hq
theorem swap_perm {l A : List Int} (h : l.Perm A) {k : Nat} (hk : k < l.length) (hk0 : 0 < k) {x y : Int} (hx : gd l (k - 1) = x) (hy : gd l k = y) : ((l.set (k - 1) y).set k x).Perm A := by
  rw [gd_at (by omega)] at hx
  rw [gd_at hk] at hy
  rw [← hx, ← hy]
  exact (List.set_set_perm (by omega) hk).trans h

/-! ## the intervals of the first i numbers -/
def pc (p : Int × Int) : List Value := [.int .i64 p.1, .int .i64 p.2]
theorem pc_len (p : Int × Int) : (pc p).length = 2 := rfl
def GIv (l : List Int) (i : Nat) (G : List (Int × Int)) : Prop := Norm G ∧ (∀ x, inG G x ↔ ∃ p, p < i ∧ x = gd l p) ∧ (∀ g ∈ G, ∃ p, p < i ∧ g.2 = gd l p + 1) ∧ G.length ≤ i
theorem GIv.zero (l : List Int) : GIv l 0 [] := ⟨⟨by simp, List.Pairwise.nil⟩, fun x => ⟨fun h => (inG_nil x h).elim, fun ⟨p, h, _⟩ => by omega⟩, by simp, Nat.le_refl _⟩
theorem last_split {G : List (Int × Int)} {e : Int × Int} (h0 : 0 < G.length) (he : G[G.length - 1]'(by omega) = e) : G = G.take (G.length - 1) ++ [e] := by
  have := List.take_append_drop (G.length - 1) G
  rw [List.drop_eq_getElem_cons (by omega), he, List.drop_eq_nil_of_le (by omega)] at this
  exact this.symm
theorem set_last {G : List (Int × Int)} {e v : Int × Int} (h0 : 0 < G.length) (he : G[G.length - 1]'(by omega) = e) : G.set (G.length - 1) v = G.take (G.length - 1) ++ [v] := by
  rw [List.set_eq_take_append_cons_drop, if_pos (by omega), List.drop_eq_nil_of_le (by omega)]
theorem GIv.lt {l : List Int} {i : Nat} {G : List (Int × Int)} (h : GIv l i G) (hs : InvS l (i + 1)) {g : Int × Int} (hg : g ∈ G) : g.2 ≤ gd l i := by
  obtain ⟨p, hp, e⟩ := h.2.2.1 g hg
  have := hs p i hp (by omega)
  omega
theorem GIv.app {l : List Int} {i : Nat} {G : List (Int × Int)} (h : GIv l i G) (hs : InvS l (i + 1)) {x : Int} (hx : gd l i = x) (hl : ∀ (h0 : 0 < G.length), (G[G.length - 1]'(by omega)).2 ≠ x) : GIv l (i + 1) (G ++ [(x, x + 1)]) := by
  refine ⟨⟨fun p hp => ?_, ?_⟩, fun y => ?_, fun g hg => ?_, by simp; exact h.2.2.2⟩
  · rcases List.mem_append.1 hp with hp | hp
    · exact h.1.1 p hp
    · obtain rfl := List.mem_singleton.1 hp
      show x < x + 1
      omega
  · rw [List.pairwise_append]
    refine ⟨h.1.2, List.pairwise_singleton _ _, fun a ha b hb => ?_⟩
    obtain rfl := List.mem_singleton.1 hb
    show a.2 < x
    have h0 : 0 < G.length := List.length_pos_of_mem ha
    have hle := h.lt hs ha
    obtain ⟨e, he⟩ : ∃ e, G[G.length - 1]'(by omega) = e := ⟨_, rfl⟩
    have hne := hl h0
    rw [he] at hne
    have hsp := last_split h0 he
    have hpw := h.1.2
    rw [hsp] at hpw ha
    have hem : e ∈ G := he ▸ List.getElem_mem _
    rcases List.mem_append.1 ha with ha | ha
    · have h3 := (List.pairwise_append.1 hpw).2.2 a ha e (by simp)
      have h4 := h.1.1 e hem
      have h5 := h.lt hs hem
      omega
    · obtain rfl := List.mem_singleton.1 ha
      omega
  · rw [inG_append, inG_one, h.2.1]
    constructor
    · rintro (⟨p, hp, e⟩ | hy)
      · exact ⟨p, by omega, e⟩
      · exact ⟨i, by omega, by omega⟩
    · rintro ⟨p, hp, e⟩
      by_cases hpi : p = i
      · subst hpi; right; omega
      · exact .inl ⟨p, by omega, e⟩
  · rcases List.mem_append.1 hg with hg | hg
    · obtain ⟨p, hp, e⟩ := h.2.2.1 g hg
      exact ⟨p, by omega, e⟩
    · obtain rfl := List.mem_singleton.1 hg
      exact ⟨i, by omega, by rw [hx]⟩
theorem GIv.ext {l : List Int} {i : Nat} {G : List (Int × Int)} (h : GIv l i G) (h0 : 0 < G.length) {e : Int × Int} (he : G[G.length - 1]'(by omega) = e) {x : Int} (hx : gd l i = x) (hl : e.2 = x) : GIv l (i + 1) (G.set (G.length - 1) (e.1, x + 1)) := by
  have hsp := last_split h0 he
  have hem : e ∈ G := he ▸ List.getElem_mem _
  have hpw := h.1.2
  have h4 := h.1.1 e hem
  rw [set_last h0 he]
  have hin : ∀ y, inG G y ↔ inG (G.take (G.length - 1)) y ∨ (e.1 ≤ y ∧ y < e.2) := fun y => by
    conv => lhs; rw [hsp]
    rw [inG_append]
    exact or_congr Iff.rfl (inG_one _ _ _)
  rw [hsp] at hpw
  have hp2 := List.pairwise_append.1 hpw
  refine ⟨⟨fun p hp => ?_, ?_⟩, fun y => ?_, fun g hg => ?_, ?_⟩
  · rcases List.mem_append.1 hp with hp | hp
    · exact h.1.1 p (List.mem_of_mem_take hp)
    · obtain rfl := List.mem_singleton.1 hp
      show e.1 < x + 1
      omega
  · rw [List.pairwise_append]
    refine ⟨hp2.1, List.pairwise_singleton _ _, fun a ha b hb => ?_⟩
    obtain rfl := List.mem_singleton.1 hb
    exact hp2.2.2 a ha e (by simp)
  · rw [inG_append, inG_one]
    have h5 := h.2.1 y
    rw [hin] at h5
    constructor
    · rintro (hy | hy)
      · obtain ⟨p, hp, e⟩ := h5.1 (.inl hy)
        exact ⟨p, by omega, e⟩
      · by_cases hyx : y = x
        · exact ⟨i, by omega, by omega⟩
        · obtain ⟨p, hp, e⟩ := h5.1 (.inr ⟨hy.1, by omega⟩)
          exact ⟨p, by omega, e⟩
    · rintro ⟨p, hp, e1⟩
      by_cases hpi : p = i
      · subst hpi; right; omega
      · rcases h5.2 ⟨p, by omega, e1⟩ with hy | hy
        · exact .inl hy
        · right; omega
  · rcases List.mem_append.1 hg with hg | hg
    · obtain ⟨p, hp, e⟩ := h.2.2.1 g (List.mem_of_mem_take hg)
      exact ⟨p, by omega, e⟩
    · obtain rfl := List.mem_singleton.1 hg
      exact ⟨i, by omega, by rw [hx]⟩
  · have := h.2.2.2
    rw [List.length_append, List.length_take, List.length_singleton]
    omega
theorem GIv.ext2 {l : List Int} {i n : Nat} {G : List (Int × Int)} (h : GIv l i G) (hn : G.length = n) (h0 : 0 < n) {hj : n - 1 < G.length} {e : Int × Int} (he : G[n - 1]'hj = e) {x : Int} (hx : gd l i = x) (hl : e.2 = x) : GIv l (i + 1) (G.set (n - 1) (e.1, x + 1)) := by
  subst hn
  exact h.ext h0 he hx hl
theorem GIv.app2 {l : List Int} {i n : Nat} {G : List (Int × Int)} (h : GIv l i G) (hs : InvS l (i + 1)) {x : Int} (hx : gd l i = x) (hn : G.length = n) (hl : n = 0 ∨ ∃ hj : n - 1 < G.length, (G[n - 1]'hj).2 ≠ x) : GIv l (i + 1) (G ++ [(x, x + 1)]) := by
  subst hn
  refine h.app hs hx fun h0 => ?_
  rcases hl with h | ⟨_, h⟩
  · omega
  · exact h
theorem fpS_nil (k : Nat) : ¬ fpS (.slice none 0 0) k := fun h => by simp [fpS, Value.ownBlock] at h
/-- they are the gaps of the tree -/
theorem GIv.gaps {k : List Nat} {A l : List Int} {T : List Nd} {G : List (Int × Int)} (hT : tree k A = T) (hAl : A.length ≤ 800) (hA : ∀ a ∈ A, isAddr a = true) (hp : l.Perm A) {i : Nat} (hi : i = l.length) (h : GIv l i G) : G = Go.Proofs.Yteakoleceoclkaa.gaps T := by
  have hv : vld (tree k A) = true := tree_vld_of k A (by omega)
  subst hT hi
  refine norm_unique h.1 (gaps_norm hv) fun x => ?_
  rw [h.2.1, gaps_tree hv]
  constructor
  · rintro ⟨p, hp1, rfl⟩
    have hm : gd l p ∈ A := hp.mem_iff.1 (by rw [gd_at hp1]; exact List.getElem_mem hp1)
    exact ⟨hA _ hm, hm⟩
  · rintro ⟨_, hm⟩
    obtain ⟨p, hp1, e⟩ := List.getElem_of_mem (hp.mem_iff.2 hm)
    exact ⟨p, hp1, by rw [gd_at hp1]; exact e.symm⟩
/-! ## operations -/
theorem ix_p1 (b o : Nat) (w : World) : (Instr.indexAt 52 (.pointer (some ⟨b, o, none⟩)) (.int .i64 1)).run Try.prog w = .ok (.pointer (some ⟨b, o + 1, none⟩)) w := by
  rw [run_indexAt_array (P := Try.prog) (w := w) (t := 52) (a := ⟨b, o, none⟩) (k := .i64) (i := 1) (h := by kernel_rfl)]
  have e1 : Try.prog.arrayLen 52 = 2 := by kernel_rfl
  have e2 : (sizeOf (Try.prog.elem 52)).run Try.prog w = .ok 1 w := by kernel_rfl
  rw [e1]
  simp [Addr.add, e2, Result.andThen]
theorem bI2' (a b : Int) (w : World) : (Instr.build 52 #[(0, .int .i64 a), (1, .int .i64 b)]).run Try.prog w = .ok (.agg #[.int .i64 a, .int .i64 b]) w := by kernel_rfl
theorem bSg (a b : Int) (w : World) : (Instr.buildSlice 51 1 #[(0, .agg #[.int .i64 a, .int .i64 b])]).run Try.prog w = .ok (.slice (some ⟨w.heap.size, 0, none⟩) 1 1) (w.alloc (.cells (pc (a, b)).toArray 52)) := by kernel_rfl
theorem tyI64s' (v : Value) (h : v.oneCell' = true) : TY Try.prog 37 [v] v := tyI64s v h
theorem pc_all (G : List (Int × Int)) : (G.flatMap pc).all Value.oneCell' = true := by rw [List.all_flatMap]; simp [pc, Value.oneCell']
theorem sl_pc {w : World} {V : Nat} {p : Int × Int} (h : w.heap[V]? = some (.cells (pc p).toArray 52 (0, 0))) : Sl w 2 (.slice (some ⟨V, 0, none⟩) 1 1) 1 (pc p) := by
  refine ⟨rfl, _, _, rfl, Nat.le_refl _, by unfold maxLen; omega, fun h => (by cases h), fun ad had => ?_⟩
  obtain rfl := Option.some.inj had
  refine ⟨fun _ => rfl, fun j u hu => ?_⟩
  rw [Nat.zero_add, cell_of_row w V j _ _ _ h]
  simpa using hu
theorem pc_snoc (G : List (Int × Int)) (p : Int × Int) : G.flatMap pc ++ pc p = (G ++ [p]).flatMap pc := by rw [List.flatMap_append]; simp
theorem lit1_on {P : Program} {t e : TypeId} {u : Value} {cs : List Value} {w0 : World} (hr : ∀ W : World, (Instr.buildSlice t 1 #[(0, u)]).run P W = .ok (.slice (some ⟨W.heap.size, 0, none⟩) 1 1) (W.alloc (.cells cs.toArray e))) (w : World) (g : w0.grownBy w none) (v : Value) (hv : v = u) : ∃ cs' : List Value, (Instr.buildSlice t 1 #[(0, v)]).run P w = .ok (.slice (some ⟨w.heap.size, 0, none⟩) 1 1) (w.alloc (.cells cs'.toArray e)) ∧
      ∀ w', w.grownBy w' none → w'.heap[w.heap.size]? = some (.cells cs'.toArray e (0, 0)) → (Sp.lit1 w0.heap.size e cs).on w' (Value.slice (some ⟨w.heap.size, 0, none⟩) 1 1) := by
  subst hv
  exact ⟨cs, hr w, fun w' g' hb => ⟨_, rfl, g.size, hb⟩⟩
section
variable {P : Program} {ops : Array Oper} {S : World → Prop} {Kt : Act → Prop} {o : Oper} {r : List Oper} {a : Act} {n : Nat} {D : List Deferred} {K : List (Nat × Value)}
theorem tk_load (sv : Sv n D K a) (hgd : o.guard = none) {T : TypeId} {x : Operand} {d : Nat} {p v : Value} (ho : o.op = .load T x) (hd : o.dst = some d) (hdn : decide (d < n) = true) (hx : okV K x = true ∧ evV K x = p) (hr : ∀ w, S w → (Instr.loadAt T p).run P w = .ok v w)
    (h : ∀ a', Sv n D ((d, v) :: delK d K) a' → wpTake P ops S Kt r a') : wpTake P ops S Kt (o :: r) a :=
  take_load hgd T x ho (sv.ev hx.1 hx.2) hr (by rw [hd]; exact h _ (sv.put (of_decide_eq_true hdn) v))
theorem tk_px (w0 : World) (sv : Sv n D K a) {v : Value} {d : Nat} (hd : o.dst = some d) (hc : (decide (d < n) && !(o.looksAt ops).contains d) = true) (hp : PX P ops (lkS ((d, Sp.is v) :: isL K)) n w0 o)
    (h : ∀ a', Sv n D ((d, v) :: delK d K) a' → wpTake P ops S Kt r a') : wpTake P ops S Kt (o :: r) a := by
  simp only [Bool.and_eq_true, decide_eq_true_eq, Bool.not_eq_true'] at hc
  obtain ⟨u, hy, hu⟩ := hp a w0 (World.grownBy.refl _ _) (fun t ht htn => by
    have hne : (Nat.beq d t) = false := by
      cases e : Nat.beq d t with
      | false => rfl
      | true =>
        have := Nat.eq_of_beq_eq_true e
        subst this
        have h2 := hc.2
        rw [← Bool.not_eq_true, List.contains_iff_mem] at h2
        exact absurd ht h2
    have h1 := (sv.st w0).2.2.at t
    unfold lkS
    rw [hne]
    exact h1) sv.1
  have e : u = v := by
    have := hu d hd
    unfold lkS at this
    have hb : Nat.beq d d = true := Nat.beq_refl d
    rw [hb] at this
    exact this
  subst e
  exact ⟨_, hy.yieldsIf, by rw [hd]; exact h _ (sv.put hc.1 _)⟩
end
theorem tl_lit {P : Program} {Q : Exit → Act → World → Prop} {ops : Array Oper} {rest : List Oper} {o : Oper} {a : Act} {w : World} {n : Nat} {D : List Deferred} {K : List (Nat × Value)} (sv : Sv n D K a) {t e : TypeId} {x : Operand} {d : Nat} {u : Value} {cs : List Value} (r : o.guard = none ∧ o.op = .buildSlice t 1 #[(0, x)] ∧ o.dst = some d ∧ decide (d < n) = true ∧ okV K x = true ∧ evV K x = u)
    (hr : ∀ W : World, (Instr.buildSlice t 1 #[(0, u)]).run P W = .ok (.slice (some ⟨W.heap.size, 0, none⟩) 1 1) (W.alloc (.cells cs.toArray e)))
    (h : ∀ a' w' b, b = w.heap.size → w.grownBy w' none → w'.heap[b]? = some (.cells cs.toArray e (0, 0)) → Sv n D ((d, .slice (some ⟨b, 0, none⟩) 1 1) :: delK d K) a' → wpList P ops Q rest a' w') : wpList P ops Q (o :: rest) a w :=
  tl_run sv r.1 r.2.2.1 r.2.2.2.1 (w' := w.alloc (.cells cs.toArray e)) (by
    have e1 := sv.ev r.2.2.2.2.1 r.2.2.2.2.2
    simp only [execOp, r.2.1, List.map_toArray, List.map_cons, List.map_nil, e1, Sem.run_bind, Sem.run_pure, Result.andThen_ok, hr]) fun a' sv' => h a' _ _ rfl (World.grownBy_alloc _ _ _) (heap_at rfl) sv'
end Go.Proofs.Yteakoleceoclkaa
