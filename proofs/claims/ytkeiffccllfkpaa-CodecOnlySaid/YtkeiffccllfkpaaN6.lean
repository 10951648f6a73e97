/- A region whose last operation waits for all others. -/
import Derived.Test.YtkeiffccllfkpaaN3
namespace Go.Proofs.Ytkeiffccllfkpaa
open Go.RowKit

theorem ready_nil {P : Program} {Q : Exit → Act → World → Prop} {ops : Array Oper} {listed : Array Bool} (hr : Region.ready .any ops listed = []) : ∀ (fuel : Nat) (a : Act) (w : World), Q .normal a w → wpAny P .any ops Q fuel listed a w
  | 0, _, _, h => ⟨hr, h⟩
  | _ + 1, _, _, h => ⟨fun _ => h, fun i hi => by rw [hr] at hi; cases hi⟩
theorem ready_all {ops : Array Oper} {listed : Array Bool} (h : ∀ i, i < ops.size → listed.getD i true = true) : Region.ready .any ops listed = [] := by
  cases hr : Region.ready .any ops listed with
  | nil => rfl
  | cons i r =>
    exfalso
    have hi : i ∈ Region.ready .any ops listed := by rw [hr]; exact List.mem_cons_self
    obtain ⟨h1, o, h2, _⟩ := mem_ready.1 hi
    rw [h i (Array.getElem?_eq_some_iff.1 h2).1] at h1
    cases h1
/-- a region whose last operation waits for all others: it may do what it wants -/
theorem region_relL {P : Program} {Q : Exit → Act → World → Prop} {id : Nat} {ops : Array Oper} {z : Nat} {last : Oper} {a0 : Act} {w0 : World} (hm : P.follows .mixedOrders = true) (n : Nat) (L : List Sp) (hn : a0.tmps.size = n) (hB : regB ops n = true) (hsz0 : ops.size = z + 1) (hz : ops[z]? = some last) (hzl : ∀ j, j < z → ∃ e ∈ last.after.toList, e.on = j ∧ Region.binds .any e = true)
    (h0 : ∀ t, t < n → (∀ (i : Nat) (o : Oper), i < z → ops[i]? = some o → o.dst ≠ some t) → At L t w0 (a0.tmps.getD t undef))
    (ob : ∀ (i : Nat) (o : Oper), i < z → ops[i]? = some o → ∀ a w, w0.grownBy w none → (∀ t ∈ o.looksAt ops, t < n → At L t w (a.tmps.getD t undef)) → a.tmps.size = n →
      OpSays P ops o a w fun v w' => w.grownBy w' none ∧ ∀ d, o.dst = some d → At L d w' v)
    (hQ : ∀ a w, w0.grownBy w none → a.defers = a0.defers → a.tmps.size = n → (∀ t, t < n → At L t w (a.tmps.getD t undef)) → wpList P ops Q [last] a w) :
    (Code.region id ops true).wp P Q a0 w0 := by
  refine wp_region_any hm ?_
  have key : ∀ (fuel : Nat) (listed : Array Bool) (a : Act) (w : World), listed.size = ops.size → listed.getD z false = false → (∀ l : List Nat, l.Nodup → (∀ i ∈ l, i < ops.size ∧ listed.getD i true = false) → l.length ≤ fuel) →
      w0.grownBy w none → a.defers = a0.defers → a.tmps.size = n →
      (∀ t, t < n → ((∀ (i : Nat) (o : Oper), i < z → ops[i]? = some o → o.dst ≠ some t) ∨ ∃ (i : Nat) (o : Oper), i < z ∧ ops[i]? = some o ∧ o.dst = some t ∧ listed.getD i false = true) → At L t w (a.tmps.getD t undef)) →
      wpAny P .any ops Q fuel listed a w := by
    intro fuel
    have notnil : ∀ (listed : Array Bool), listed.size = ops.size → listed.getD z false = false → Region.ready .any ops listed ≠ [] := by
      intro listed hsz hzf hr
      have all : ∀ i, i < ops.size → listed.getD i false = true := by
        intro i
        induction i using Nat.strongRecOn with
        | _ i ih =>
          intro hi
          cases hl : listed.getD i false with
          | true => rfl
          | false =>
            exfalso
            have ho : ops[i]? = some ops[i] := Array.getElem?_eq_getElem hi
            have : i ∈ Region.ready .any ops listed := mem_ready.2 ⟨by
                have : i < listed.size := by omega
                simp only [Array.getD_eq_getD_getElem?, Array.getElem?_eq_getElem this, Option.getD_some] at hl ⊢
                exact hl, ops[i], ho, fun e he _ => by
                have := (regB_spec hB ho).1 e (by simpa using he)
                exact ih e.on this (by omega)⟩
            rw [hr] at this
            cases this
      rw [all z (by omega)] at hzf
      cases hzf
    induction fuel with
    | zero =>
      intro listed a w hsz hzf hf hg hd has hk
      exfalso
      cases hr : Region.ready .any ops listed with
      | nil => exact notnil listed hsz hzf hr
      | cons i r =>
        have hi : i ∈ Region.ready .any ops listed := by rw [hr]; exact List.mem_cons_self
        obtain ⟨h1, o, h2, _⟩ := mem_ready.1 hi
        have := hf [i] (by simp) (fun k hk => by simp at hk; subst hk; exact ⟨(Array.getElem?_eq_some_iff.1 h2).1, h1⟩)
        simp at this
    | succ fuel ih =>
      intro listed a w hsz hzf hf hg hd has hk
      refine ⟨fun hr => absurd hr (notnil listed hsz hzf), fun i hi => ?_⟩
      obtain ⟨h1, o, ho, hready⟩ := mem_ready.1 hi
      obtain ⟨s1, s2, s3⟩ := regB_spec hB ho
      have hlt : i < ops.size := (Array.getElem?_eq_some_iff.1 ho).1
      by_cases hiz : i = z
      · subst hiz
        have hol : o = last := by rw [ho] at hz; exact Option.some.inj hz
        subst hol
        have hall : ∀ j, j < i → listed.getD j false = true := fun j hj => by
          obtain ⟨e, he, hej, hb⟩ := hzl j hj
          have := hready e (by simpa using he) hb
          rwa [hej] at this
        have hq := hQ a w hg hd has fun t ht => hk t ht (by
          by_cases hex : ∃ (j : Nat) (oj : Oper), j < i ∧ ops[j]? = some oj ∧ oj.dst = some t
          · obtain ⟨j, oj, hj, hjo, hdj⟩ := hex
            exact .inr ⟨j, oj, hj, hjo, hdj, hall j hj⟩
          · exact .inl fun j oj hj hjo hdj => hex ⟨j, oj, hj, hjo, hdj⟩)
        have hfin : Region.ready .any ops (listed.setIfInBounds i true) = [] := ready_all fun j hj => by
          by_cases hji : i = j
          · subst hji
            rw [Array.getD_eq_getD_getElem?, Array.getElem?_setIfInBounds_self_of_lt (by omega)]; rfl
          · rw [getD_set_ne true hji]
            have h5 := hall j (by omega)
            have hjl : j < listed.size := by omega
            rw [Array.getD_eq_getD_getElem?, Array.getElem?_eq_getElem hjl] at h5 ⊢
            exact h5
        unfold wpOp
        rw [ho]
        unfold wpList at hq
        simp only at hq ⊢
        split
        · rename_i hw
          rw [if_pos hw] at hq
          exact hq.imp (fun h => Oper.wp_mono (fun a' w' h' => ready_nil hfin fuel a' w' (by unfold wpList at h'; exact h')) h) (fun h => h)
        · rename_i hw
          rw [if_neg hw] at hq
          exact ready_nil hfin fuel _ _ (by unfold wpList at hq; exact hq)
      · have hiz2 : i < z := by omega
        refine OpSays.wpOp ho (ob i o hiz2 ho a w hg (fun t ht htn => hk t htn ?_) has) ?_
        · by_cases hex : ∃ (j : Nat) (oj : Oper), j < z ∧ ops[j]? = some oj ∧ oj.dst = some t
          · obtain ⟨j, oj, hjz, hj, hdj⟩ := hex
            obtain ⟨e, he, rfl, hb⟩ := (s3 j oj t hj hdj).2 ht
            exact .inr ⟨e.on, oj, hjz, hj, hdj, hready e (by simpa using he) hb⟩
          · exact .inl fun j oj hjz hj hdj => hex ⟨j, oj, hjz, hj, hdj⟩
        · rintro v w' ⟨hg', hv⟩
          refine ih _ _ _ (by simpa using hsz) (by rw [getD_set_ne false hiz]; exact hzf) ?_ (grown_trans hg hg') (by cases ho' : o.dst <;> simp [Act.put, hd]) (by cases ho' : o.dst <;> simp [Act.put, has]) ?_
          · intro l hnd hl
            have hil : i ∉ l := by
              intro hmem
              have := (hl i hmem).2
              rw [Array.getD_eq_getD_getElem?, Array.getElem?_setIfInBounds_self_of_lt (by omega)] at this
              cases this
            have := hf (i :: l) (List.nodup_cons.2 ⟨hil, hnd⟩) (fun k hk => by
              rcases List.mem_cons.1 hk with rfl | hk
              · exact ⟨hlt, h1⟩
              · have h2 := hl k hk
                have hne : i ≠ k := fun e => hil (e ▸ hk)
                rw [getD_set_ne true hne] at h2
                exact h2)
            simpa using this
          · intro t htn hor
            rw [getD_put a o.dst v t (fun k hk => has ▸ s2 k hk)]
            by_cases hdt : o.dst = some t
            · rw [if_pos hdt]
              exact hv t hdt
            · rw [if_neg hdt]
              refine (L.getD t Sp.any).mono _ _ _ hg' (hk t htn ?_)
              rcases hor with h | ⟨j, oj, hjz, hj, hdj, hlj⟩
              · exact .inl h
              · refine .inr ⟨j, oj, hjz, hj, hdj, ?_⟩
                have hne : i ≠ j := fun e => hdt (by subst e; rw [ho] at hj; obtain rfl := Option.some.inj hj; exact hdj)
                rwa [getD_set_ne false hne] at hlj
  refine key ops.size _ a0 { w0 with drawn := w0.drawn + 1 } (by simp) ?_ ?_ ⟨rfl, rfl, rfl, Nat.le_refl _, fun _ _ _ => rfl⟩ rfl hn ?_
  · rw [Array.getD_eq_getD_getElem?, Array.getElem?_replicate]
    split <;> rfl
  · intro l hnd hl
    have : l ⊆ List.range ops.size := fun k hk => List.mem_range.2 (hl k hk).1
    have := List.Nodup.length_le_of_subset hnd this
    simpa using this
  · intro t ht hor
    refine (L.getD t Sp.any).mono w0 _ _ ⟨rfl, rfl, rfl, Nat.le_refl _, fun _ _ _ => rfl⟩ (h0 t ht ?_)
    rcases hor with h | ⟨i, o, _, hi, _, hl⟩
    · exact h
    · exfalso
      have : i < ops.size := (Array.getElem?_eq_some_iff.1 hi).1
      rw [Array.getD_eq_getD_getElem?, Array.getElem?_replicate, if_pos this] at hl
      cases hl
/-- the last operation waits for all others -/
def lastB (last : Oper) (z : Nat) : Bool := (List.range z).all fun j => last.after.toList.any fun e => e.on == j && Region.binds .any e
theorem lastB_spec {last : Oper} {z : Nat} (h : lastB last z = true) : ∀ j, j < z → ∃ e ∈ last.after.toList, e.on = j ∧ Region.binds .any e = true := fun j hj => by
  have h1 := List.all_eq_true.1 h j (List.mem_range.2 hj)
  obtain ⟨e, he, h2⟩ := List.any_eq_true.1 h1
  simp only [Bool.and_eq_true, beq_iff_eq] at h2
  exact ⟨e, he, h2⟩
theorem region_last {P : Program} {Q : Exit → Act → World → Prop} {id : Nat} {ops : List Oper} {last : Oper} {l0 : List Value} {ds : List Deferred} {w0 : World} (hm : P.follows .mixedOrders = true) (L : List Sp) (m : List Bool)
    (hB : regB (ops ++ [last]).toArray L.length = true) (hlb : lastB last ops.length = true) (hm2 : dstsB ops L.length = m) (hn : l0.length = L.length)
    (h0 : InitP w0 L l0 m) (ob : ObAll P (ops ++ [last]).toArray L L.length w0 ops)
    (hQ : ∀ (x : Nat → Value) w, w0.grownBy w none → (∀ t, t < L.length → At L t w (if m.getD t false then x t else l0.getD t undef)) → wpList P (ops ++ [last]).toArray Q [last] ⟨(frameOf x 0 l0 m).toArray, ds⟩ w) :
    (Code.region id (ops ++ [last]).toArray true).wp P Q ⟨l0.toArray, ds⟩ w0 := by
  have hml : m.length = L.length := by rw [← hm2]; simp [dstsB]
  refine region_relL (z := ops.length) (last := last) hm L.length (keepL L l0 m) (by simpa using hn) hB (by simp) (by simp) (lastB_spec hlb) ?_ (fun i o hiz hi => ?_) (fun a w hg hd has hk => ?_)
  · intro t ht hnd
    have hmt : m.getD t false = false := by
      cases hmt : m.getD t false with
      | false => rfl
      | true =>
        exfalso
        rw [← hm2] at hmt
        simp only [dstsB, List.getD_eq_getElem?_getD, List.getElem?_map, List.getElem?_range ht, Option.map_some, Option.getD_some, List.any_eq_true, beq_iff_eq] at hmt
        obtain ⟨o, ho, hd⟩ := hmt
        obtain ⟨i, hi, rfl⟩ := List.getElem_of_mem ho
        exact hnd i ops[i] (by assumption) (by simp [List.getElem?_append, *]) hd
    rw [keepL_at L l0 m ht]
    have e : (⟨l0.toArray, ds⟩ : Act).tmps.getD t undef = l0.getD t undef := by simp [List.getD_eq_getElem?_getD]
    rw [e]
    refine ⟨?_, fun _ => rfl⟩
    rcases h0.at t ht (by omega) (by omega) with h | h
    · rw [hmt] at h; cases h
    · exact h
  · have hi2 : ops[i]? = some o := by simpa [List.getElem?_append, hiz] using hi
    have hob := ob.at i o hi2
    intro a w hw hl hsz
    have h1 := hob a w hw (fun t ht htn => ((keepL_at L l0 m htn w _).1 (hl t ht htn)).1) hsz
    have hdst : ∀ d, o.dst = some d → d < L.length ∧ m.getD d false = true := by
      intro d hd
      have hdn := ((regB_spec hB hi).2.1 d hd)
      refine ⟨hdn, ?_⟩
      rw [← hm2]
      simp only [dstsB, List.getD_eq_getElem?_getD, List.getElem?_map, List.getElem?_range hdn, Option.map_some, Option.getD_some, List.any_eq_true, beq_iff_eq]
      exact ⟨o, List.mem_of_getElem? hi2, hd⟩
    have conv : ∀ v w', (w.grownBy w' none ∧ ∀ d, o.dst = some d → At L d w' v) → (w.grownBy w' none ∧ ∀ d, o.dst = some d → At (keepL L l0 m) d w' v) := fun v w' h =>
      ⟨h.1, fun d hd => (keepL_at L l0 m (hdst d hd).1 w' v).2 ⟨h.2 d hd, fun hf => by rw [(hdst d hd).2] at hf; cases hf⟩⟩
    unfold OpSays at h1 ⊢
    split
    · rename_i hwt
      rw [if_pos hwt] at h1
      generalize (execOp a.eval o).run P w = r at *
      cases r with
      | ok nx w' =>
        cases nx <;> simp only at h1 ⊢
        all_goals first
          | exact h1.elim
          | exact conv _ _ h1
          | exact h1.mono fun e w'' ⟨v, he, hr⟩ => ⟨v, he, conv _ _ hr⟩
      | halt x w' => exact h1.elim
    · rename_i hwt
      rw [if_neg hwt] at h1
      exact conv _ _ h1
  · have hk' : ∀ t, t < L.length → At L t w (a.tmps.getD t undef) ∧ (m.getD t false = false → a.tmps.getD t undef = l0.getD t undef) := fun t ht => (keepL_at L l0 m ht w _).1 (hk t ht)
    have hget : ∀ t, t < L.length → a.tmps.getD t undef = if m.getD t false then a.tmps.getD t undef else l0.getD t undef := by
      intro t ht
      split
      · rfl
      · rename_i hmt; exact (hk' t ht).2 (by simpa using hmt)
    have e : a = ⟨(frameOf (fun t => a.tmps.getD t undef) 0 l0 m).toArray, ds⟩ := by
      obtain ⟨tm, df⟩ := a
      simp only at hd has hget ⊢
      subst hd
      congr 1
      apply Array.ext'
      refine List.ext_getElem (by rw [frameOf_len _ _ _ _ (by omega), hn]; simpa using has) fun t h1 h2 => ?_
      have h1' : t < tm.size := by simpa using h1
      have ht : t < L.length := by omega
      have h3 := frameOf_get (fun t => tm.getD t undef) 0 l0 m (by omega) t (by omega)
      rw [Nat.zero_add] at h3
      have h4 := (hget t ht).trans h3.symm
      rw [Array.getD_eq_getD_getElem?, Array.getElem?_eq_getElem h1', List.getD_eq_getElem?_getD, List.getElem?_eq_getElem (by simpa using h2)] at h4
      simpa using h4
    rw [e]
    refine hQ _ w hg fun t ht => ?_
    have h5 := (hk' t ht).1
    rw [hget t ht] at h5
    exact h5
/-- a pointer to a block that was made since B -/
def Sp.new (B : Nat) (Z : List Value) (T : TypeId) : Sp := ⟨fun w v => ∃ A, v = .pointer (some ⟨A, 0, none⟩) ∧ B ≤ A ∧ w.heap[A]? = some (.cells Z.toArray T (0, 0)), fun _ _ _ hg ⟨A, h1, h2, h3⟩ => ⟨A, h1, h2, row_of hg h3 (by simp)⟩⟩
/-- an owned row -/
def Sp.ownd (e : TypeId) (sz n : Nat) (xs : List Value) : Sp := ⟨fun w v => Own w e sz v n xs, fun _ _ _ hg h => h.kn hg⟩
theorem ty3 (n : Int) : TY Try.prog 3 [.int .i64 n] (.int .i64 n) := TY.one' Try.underlying3 rfl (by kernel_rfl) rfl
theorem tyIntsS {w : World} {v : Value} {n m : Nat} {xs : List Value} (h : Sl w n v m xs) : TY Try.prog 93 [v] v := by
  obtain ⟨ao, cap, rfl, _⟩ := h.shape
  exact TY.one' Try.underlying93 rfl (by kernel_rfl) rfl
theorem Own.block {w : World} {base : Nat} {e : TypeId} {sz : Nat} {v : Value} {n : Nat} {xs : List Value} (h : w.ownsRow base e sz v n xs) {b : Nat} (hb : v.ownBlock = some b) : ∃ c fr, w.heap[b]? = some (.cells c e fr) := by
  rcases h.2 with ⟨rfl, _⟩ | ⟨g, cap, cur, rfl, _, hg, _⟩
  · simp [Value.ownBlock] at hb
  · simp [Value.ownBlock] at hb
    subst hb
    exact ⟨_, _, hg⟩
/-- rows of two types lie apart -/
theorem Own.apart {w : World} {e e' : TypeId} {sz sz' : Nat} {v u : Value} {n m : Nat} {xs ys : List Value} (h : Own w e sz v n xs) (k : Own w e' sz' u m ys) (hne : e ≠ e') : v.ownBlock = none ∨ v.ownBlock ≠ u.ownBlock := by
  cases hv : v.ownBlock with
  | none => exact .inl rfl
  | some b =>
    refine .inr fun e => ?_
    obtain ⟨c, fr, hb⟩ := Own.block h hv
    exact Own.ne k hb (fun e => hne e.symm) e.symm
/-- another block of another type is written -/
theorem Own.past {w w' : World} {e T : TypeId} {sz : Nat} {v : Value} {n : Nat} {xs : List Value} {A : Nat} {c : Array Value} {fr : Nat × Nat} (h : Own w e sz v n xs) (g : w.grownBy w' (some A)) (hA : w.heap[A]? = some (.cells c T fr)) (hne : e ≠ T) : Own w' e sz v n xs :=
  h.kept g (.inr (Own.ne h hA hne))
theorem Own.other {w w' : World} {e e' : TypeId} {sz sz' : Nat} {v u u' : Value} {n m : Nat} {xs ys : List Value} (h : Own w e sz v n xs) (k : Own w e' sz' u m ys) (hs : Step w u w' u') (hne : e ≠ e') : Own w' e sz v n xs :=
  h.kept hs.1 (h.apart k hne)
/-- a store into the middle of a block, the world behind it a letter -/
theorem wpList_storeAt {P : Program} {ops : Array Oper} {rest : List Oper} {o : Oper} {a : Act} {w : World} {Q : Exit → Act → World → Prop} (hgd : o.guard = none) (T : TypeId) (x y : Operand) (ho : o.op = .store T x y)
    {b k : Nat} {cs C : List Value} {v : Value} {t : TypeId} (hx : a.eval x = .pointer (some ⟨b, k, none⟩)) (hy : a.eval y = v) (ty : TY P T cs v) (hb : w.heap[b]? = some (.cells C.toArray t (0, 0))) (hc : k + cs.length ≤ C.length)
    (h : ∀ w', w.grownBy w' (some b) → w'.heap[b]? = some (.cells (C.take k ++ (cs ++ C.drop (k + cs.length))).toArray t (0, 0)) → wpList P ops Q rest (a.put o.dst undef) w') : wpList P ops Q (o :: rest) a w := by
  refine wpList_plain hgd fun K hK => ?_
  have hl : (Instr.storeAt T (.pointer (some ⟨b, k, none⟩)) v).run P w = .ok () (w.setCells b k cs) := by
    have := run_storeCells_cells (P := P) b k cs 0 w (fun j hj => by
      rw [cell_of_row w b _ _ t _ hb]
      have hj' : k + j < C.length := by omega
      simp [hj']) (fun j hj => frozen_of_row w b _ _ t hb) ty.one
    simp only [Instr.storeAt, Instr.sureAddr, Sem.run_bind, Sem.run_pure, Result.andThen_ok]
    have hs := ty.size
    cases hq : P.info? T with
    | none => simp [hq] at hs
    | some i =>
      have hs' : i.size = cs.length := by simpa [hq] using hs
      simp only [Nat.add_zero] at this
      simp [storeVar, sizeOf, typeInfo, hq, ty.cells, hs', this]
  unfold Oper.wp execOp
  simp only [ho, hx, hy, Sem.run_bind, Sem.run_pure, Result.andThen_ok, hl]
  exact hK _ _ (h _ (setCells_grown b cs k w) (setCells_mid C k cs hb hc))
theorem ob_alloc {P : Program} {ops : Array Oper} {L : List Sp} {n : Nat} {w0 : World} {o : Oper} {T : TypeId} {d B : Nat} {Z : List Value} (hd : o.dst = some d) (hg : GOK ops L n o.guard) (hB : B ≤ w0.heap.size)
    (hrun : ∀ (a : Act) w, (execOp a.eval o).run P w = .ok (.value (.pointer (some ⟨w.heap.size, 0, none⟩))) (w.alloc (.cells Z.toArray T)))
    (hv : ∀ w v, (Sp.new B Z T).on w v → At L d w v) : Ob P ops L n w0 o := by
  intro a w hw hl hs
  unfold OpSays
  rw [if_pos (hg.wanted hl hs), hrun a w]
  refine ⟨World.grownBy_alloc _ _ _, fun d' hd' => ?_⟩
  rw [hd] at hd'
  obtain rfl := Option.some.inj hd'
  exact hv _ _ ⟨_, rfl, Nat.le_trans hB hw.size, heap_at rfl⟩
end Go.Proofs.Ytkeiffccllfkpaa
