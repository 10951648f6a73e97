/- Key trees: Puncture of the program. -/
import Derived.Test.YteakoleceoclkaaK12
namespace Go.Proofs.Yteakoleceoclkaa
open Go.RowKit Go.Shelf
set_option linter.unusedSimpArgs false
set_option linter.unusedVariables false
attribute [local go_sem] Oper.semAt_some

/-- a region in a round: a drawn head by slots, a forced tail -/
theorem region_tail_in {P : Program} {Q : Exit → Act → World → Prop} {id nn : Nat} {ro : Option Nat} {l : List Oper} {l0 : List Value} {ds : List Deferred} {w0 : World} (hout : ¬ LetsOut Q) (hdf : noDefer l = true) (hm : P.follows .mixedOrders = true) (n : Nat) (hn : l0.length = n) (k : Nat) (W : List (Option Sp))
    (hB : regB l.toArray n = true) (hT : tailB l.toArray k = true) (hW : W.map (·.isSome) = dstsB (l.take k) n) (ob : ObAll P l.toArray (mkL W l0) n w0 (l.take k))
    (al : List Nat) (hal : (al.all fun t => decide (t < n) && (l.take k).any fun o => o.dst == some t) = true) (hrun : ∀ (i : Nat) (o : Oper), (l.take k)[i]? = some o → ∀ d ∈ al, o.dst = some d → Lays P o)
    (hnew : ∀ t ∈ al, ∃ s, W.getD t none = some s ∧ ∀ w u, s.on w u → ∃ A, u = .pointer (some ⟨A, 0, none⟩) ∧ A < w.heap.size)
    (hQ : ∀ (x : Nat → Value) w, w0.grownBy w none → (∀ t s, W.getD t none = some s → t < n → s.on w (x t)) → (∀ t ∈ al, ∀ u ∈ al, t ≠ u → x t ≠ x u) → wpList P l.toArray Q (l.drop k) ⟨(fillO x 0 W l0).toArray, ds⟩ w) :
    (Code.region id l.toArray true).wpIn (Wd ro) nn P Q ⟨l0.toArray, ds⟩ w0 :=
  wpIn_region_any hm (wpAny_in hout (by simpa using hdf) _ _ _ _ (any_tail n hn k W hB hT hW ob al hal hrun hnew hQ))
/-- an owned row that was made since B -/
def Sp.own (B : Nat) (e : TypeId) (sz n : Nat) (xs : List Value) : Sp := ⟨fun w v => Own w e sz v n xs ∧ ∀ k, v.ownBlock = some k → B ≤ k, fun _ _ _ hg h => ⟨h.1.kn hg, h.2⟩⟩
theorem ob_callS {P : Program} {ops : Array Oper} {L : List Sp} {n : Nat} {w0 : World} {o : Oper} (S : Sp) (av : List Value) {f : Nat} {d : Nat} {args : Array Operand} {tys : Array TypeId} (ho : o.op = .call { callee := .value (.func f), args := args, argTypes := tys }) (hd : o.dst = some d) (hg : GOK ops L n o.guard)
    (hρ : OpdIsAll L n args.toList av) (hc : ∀ w, w0.grownBy w none → Calls P f av.toArray w fun e w' => ∃ v, e = .returned v ∧ w.grownBy w' none ∧ S.on w' v) (hv : ∀ w v, S.on w v → At L d w v)
    (hrun : ∀ (av : Array Value) w, ((Deferred.ofValue (.func (.func f) #[] #[]) av).run P w).andThen (fun a w' => (invoke a.target a.args).run P w') = .ok (.enter f av) w) : Ob P ops L n w0 o :=
  ob_call2 av ho hd hg hρ (fun w hw => (hc w hw).mono fun e w' ⟨v, he, hg, hs⟩ => ⟨v, he, hg, hv w' v hs⟩) hrun
theorem tyNs (v : Value) (h : v.oneCell' = true) : TY Try.prog 32 [v] v := TY.one' Try.underlying32 rfl (by kernel_rfl) h
theorem tcells_one' (l : List Nd) : (tcells l).all Value.oneCell' = true := by unfold tcells; rw [List.all_flatMap]; simp [ncells_one]
theorem punP_snoc (a : Int) (l : List Nd) (n : Nd) : punP a (l ++ [n]) = punP a l ++ if hasA a n then oth a (34 - n.d).toNat n else [n] := by
  unfold punP; rw [List.flatMap_append]; simp
theorem punP_len (a : Int) (l : List Nd) : (punP a l).length ≤ 34 * l.length := by
  induction l with
  | nil => simp [punP]
  | cons x l ih =>
    unfold punP at *
    rw [List.flatMap_cons, List.length_append, List.length_cons]
    split
    · rename_i h
      rw [oth_len]
      have := (okN_iff.1 (hasA_ok h)).1
      omega
    · simp only [List.length_singleton]; omega
/-- the invariant between two rounds of Puncture -/
structure PI (w : World) (a : Int) (S T : Nat) (pre : List NdK) (V : World) : Prop where
  h1 : V.heap[w.heap.size + 1]? = some (.cells #[.int .i64 a] 2 (0, 0))
  h2 : V.heap[w.heap.size + 2]? = some (.cells #[.slice none 0 0] 34 (0, 0))
  h3 : V.heap[w.heap.size + 3]? = some (.cells #[.int .i64 0] 23 (0, 0))
  ho : ∃ v, V.heap[T]? = some (.cells #[v] 32 (0, 0)) ∧ Own V 91 34 v (punP a (pre.map (·.1))).length (tcells (punP a (pre.map (·.1)))) ∧ ∀ k, v.ownBlock = some k → w.heap.size ≤ k
  gr : w.grownBy V none
  sz : S ≤ V.heap.size
theorem PI.kn {w V V' : World} {a : Int} {S T : Nat} {pre : List NdK} (h : PI w a S T pre V) (g : V.grownBy V' none) : PI w a S T pre V' := by
  obtain ⟨h1, h2, h3, ⟨v, v1, v2, v3⟩, h4, h5⟩ := h
  exact ⟨row_of g h1 (by simp), row_of g h2 (by simp), row_of g h3 (by simp), ⟨v, row_of g v1 (by simp), v2.kn g, v3⟩, grown_trans h4 g, Nat.le_trans h5 g.size⟩
theorem PI.own {w : World} {a : Int} {S T : Nat} (hs : w.heap.size + 4 ≤ S) (hT : T < S) : OwnFrom S (PI w a S T) := fun pre X Y row ⟨h1, h2, h3, ⟨v, v1, v2, v3⟩, h4, h5⟩ hg hr =>
  ⟨row_of hg h1 (fun e => by have := (hr _ e.symm).1; omega), row_of hg h2 (fun e => by have := (hr _ e.symm).1; omega), row_of hg h3 (fun e => by have := (hr _ e.symm).1; omega),
    ⟨v, row_of hg v1 (fun e => by have := (hr _ e.symm).1; omega), v2.kept hg (by
      cases hrow : row with
      | none => cases v.ownBlock <;> simp
      | some r => obtain ⟨_, o, ho, hc⟩ := hr r hrow; exact Own.cellsRow v2 ho hc), v3⟩, grown_from h4 hg (fun r e => by have := (hr r e).1; omega), Nat.le_trans h5 hg.size⟩
/-- one more round: what it gathered stands in the variable -/
theorem PI.next {w V V3 V4 : World} {a : Int} {S T : Nat} {pre : List NdK} {x : NdK} {v v3 : Value} {PL m : List Nd} {n0 k : Nat} {cs : List Value} (hT0 : w.heap.size + 3 < T) (h : PI w a S T pre V) (hv : V.heap[T]? = some (.cells #[v] 32 (0, 0)))
    (hob : ∀ k, v.ownBlock = some k → w.heap.size ≤ k) (hm : punP a ((pre ++ [x]).map (·.1)) = PL ++ m)
    (hown : Own V 91 34 v n0 (tcells PL)) (hn : n0 = PL.length) (hk : k = m.length) (hcs : cs = tcells m)
    (o3 : Own V3 91 34 v3 (n0 + k) (tcells PL ++ cs)) (s3 : Step V v V3 v3)
    (g4 : V3.grownBy V4 (some T)) (h4 : V4.heap[T]? = some (.cells #[v3] 32 (0, 0))) : PI w a S T (pre ++ [x]) V4 := by
  subst hn hk hcs
  have z1 : V3.heap[T]? = some (.cells #[v] 32 (0, 0)) := row_of s3.1 hv (fun e => Own.ne hown hv (by decide) e.symm)
  refine ⟨row_of g4 (row_of s3.1 h.h1 (fun e => Own.ne hown h.h1 (by decide) e.symm)) (by simp; omega), row_of g4 (row_of s3.1 h.h2 (fun e => Own.ne hown h.h2 (by decide) e.symm)) (by simp; omega), row_of g4 (row_of s3.1 h.h3 (fun e => Own.ne hown h.h3 (by decide) e.symm)) (by simp; omega),
    ⟨v3, h4, ?_, fun k hk => ?_⟩, ?_, Nat.le_trans h.sz (Nat.le_trans s3.1.size g4.size)⟩
  · rw [hm, List.length_append, tcells_append]
    exact o3.past g4 z1 (by decide)
  · rcases s3.2 k hk with h0 | h0
    · exact hob k h0
    · exact Nat.le_trans h.gr.size h0
  · exact grown_newR (grown_from h.gr s3.1 hob) g4 (by omega)
def PA (S : Nat) (tm : Nat → Nat → Value → Value → Act) (x : NdK) (a : Act) (V : World) : Prop := ∃ Bs Ns, S ≤ Bs ∧ S ≤ Ns ∧ V.heap[Bs]? = some (.cells #[.int .i64 (span x.1).1, .int .i64 (span x.1).2] 89 (0, 0)) ∧ V.heap[Ns]? = some (.cells (ncells x.1).toArray 91 (0, 0)) ∧ a = tm Bs Ns (sval2 (span x.1)) (nval x.1)
theorem PA.own {S0 S : Nat} {tm : Nat → Nat → Value → Value → Act} {x : NdK} {a : Act} : OwnFrom S0 (fun (_ : Unit) V => PA S tm x a V) := fun _ X Y row ⟨Bs, Ns, h1, h2, h3, h4, h5⟩ hg hr =>
  ⟨Bs, Ns, h1, h2, row_of hg h3 (fun e => by obtain ⟨_, o, ho, hc⟩ := hr _ e.symm; rw [h3] at ho; cases ho; cases hc), row_of hg h4 (fun e => by obtain ⟨_, o, ho, hc⟩ := hr _ e.symm; rw [h4] at ho; cases ho; cases hc), h5⟩
theorem bT0 (w : World) : (Instr.build 34 #[]).run Try.prog w = .ok (.agg #[.slice none 0 0]) w := by kernel_rfl
theorem bT1 (ao : Option Addr) (n cap : Nat) (w : World) : (Instr.build 34 #[(0, .slice ao n cap)]).run Try.prog w = .ok (.agg #[.slice ao n cap]) w := by kernel_rfl
/-- what Puncture hands out: a tree of its own, and an error -/
def PunR (w : World) (r : List Nd × Int) (e : Ending) (w' : World) : Prop := ∃ v, e = .returned (.tuple #[.agg #[v], .int .i64 r.2]) ∧ Own w' 91 34 v r.1.length (tcells r.1) ∧ Fresh w w' v
set_option maxRecDepth 100000 in
set_option maxHeartbeats 4000000 in
theorem punct_walk (l : List NdK) (s : Value) (a : Int) (w : World) (hR : RdL w s l) :
    Calls Try.prog 24 #[.agg #[s], .int .i64 a] w (PunR w (punOf (l.map (·.1)) a)) := by
  obtain ⟨ao, cap, rfl, p1, p2⟩ := hR.shape
  have HR := hid hR
  obtain ⟨gl, hgl⟩ : ∃ v, v = punOf (l.map (·.1)) a := ⟨_, rfl⟩
  rw [← hgl]
  have HV := hid hgl
  obtain ⟨m, hm⟩ : ∃ m, m = l.length := ⟨_, rfl⟩
  have hm0 : m ≤ 1099511627776 := by rw [hm]; exact hR.2.2
  rw [← hm] at HR p1 ⊢
  have HM := hid hm
  obtain ⟨w0, hw0⟩ : ∃ x, x = (((w.alloc (.cells #[.slice ao m cap] 34)).alloc (.cells #[.int .i64 a] 2)).alloc (.cells #[.slice none 0 0] 34)).alloc (.cells #[.int .i64 0] 23) := ⟨_, rfl⟩
  have HG0 := hid (show w.grownBy w0 none by rw [hw0]; exact grown_trans (grown_trans (grown_trans (World.grownBy_alloc _ _ _) (World.grownBy_alloc _ _ _)) (World.grownBy_alloc _ _ _)) (World.grownBy_alloc _ _ _))
  have Z0 := hid (show w0.heap[w.heap.size]? = some (.cells #[.slice ao m cap] 34 (0, 0)) by rw [hw0, heap_past (by simp <;> omega), heap_past (by simp <;> omega), heap_past (by simp <;> omega), heap_at (by simp <;> omega)])
  have Z1 := hid (show w0.heap[w.heap.size + 1]? = some (.cells #[.int .i64 a] 2 (0, 0)) by rw [hw0, heap_past (by simp <;> omega), heap_past (by simp <;> omega), heap_at (by simp <;> omega)])
  have Z2 := hid (show w0.heap[w.heap.size + 2]? = some (.cells #[.slice none 0 0] 34 (0, 0)) by rw [hw0, heap_past (by simp), heap_at (by simp)])
  have Z3 := hid (show w0.heap[w.heap.size + 3]? = some (.cells #[.int .i64 0] 23 (0, 0)) by rw [hw0, heap_at (by simp)])
  have HS0 := hid (show w0.heap.size = w.heap.size + 4 by rw [hw0]; simp)
  have HW0 := hid hw0
  clear hR hgl hm hw0
  refine (callsIn_wide (n := 4)).1 (callsIn_of_wp_marks Try.func24 rfl trivial ?_ rfl)
  simp only [Try.ntmps24, List.size_toArray, List.length_cons, List.length_nil, Nat.reduceAdd, Nat.reduceSub, Array.replicate_succ, Array.replicate_zero, List.push_toArray, List.append_toArray, List.nil_append, List.cons_append]
  refine wpIn_wide.2 ?_
  go_wp2_with fail
  refine (isAddress_walk a _).mono ?_
  rintro e w1 ⟨rfl, hw1⟩
  have hw2 : w1 = w0 := hw1.trans HW0.out.symm
  clear hw1 HW0
  subst hw2
  have c0 : w1.cell? ⟨w.heap.size, 0, none⟩ = some (.slice ao m cap) := by rw [cell_of_row _ _ _ _ _ _ Z0.out]; rfl
  have y0 := block_lt_of_cell c0
  by_cases ha : isAddr a = true
  · have HA := hid ha
    simp only [ha]
    clear ha
    go_wp2_with fail
    refine (valid_walk l (.slice ao m cap) _ (HR.out.kn HG0.out)).mono ?_
    rintro e w2 ⟨rfl, g2⟩
    have G2 := hid g2
    clear g2
    by_cases hv : vld (l.map (·.1)) = true
    · have HVL := hid hv
      simp only [hv]
      clear hv c0 y0
      have c0 : w2.cell? ⟨w.heap.size, 0, none⟩ = some (.slice ao m cap) := by rw [cell_of_row _ _ _ _ _ _ (row_of G2.out Z0.out (by simp))]; rfl
      have y0 := block_lt_of_cell c0
      obtain ⟨T, hT⟩ : ∃ T, T = w2.heap.size := ⟨_, rfl⟩
      have HT := hid hT
      go_wp2_with fail
      refine (walk_walk ao m cap _).mono ?_
      rintro e w3 ⟨rfl, rfl⟩
      go_wp2
      rw [← hT]
      obtain ⟨W, hW⟩ : ∃ W, W = (w2.alloc (.cells #[.slice none 0 0] 32)).alloc (.cells #[.slice ao m cap] 34) := ⟨_, rfl⟩
      have hg2 : w.grownBy w2 none := grown_trans HG0.out G2.out
      have hl2 : w2.grownBy W none := by rw [hW]; exact grown_trans (World.grownBy_alloc _ _ _) (World.grownBy_alloc _ _ _)
      have hWg : w.grownBy W none := grown_trans hg2 hl2
      have hWs : W.heap.size = T + 2 := by rw [hW, hT]; simp
      have hT4 : w.heap.size + 4 ≤ T := by rw [hT, ← HS0.out]; exact G2.out.size
      have b1 := row_of hl2 (row_of G2.out Z1.out (by simp)) (by simp)
      have b2 := row_of hl2 (row_of G2.out Z2.out (by simp)) (by simp)
      have b3 := row_of hl2 (row_of G2.out Z3.out (by simp)) (by simp)
      have bT : W.heap[T]? = some (.cells #[.slice none 0 0] 32 (0, 0)) := by rw [hW, hT, heap_past (by simp), World.alloc_heap_new]
      have bT1 : W.heap[T + 1]? = some (.cells #[.slice ao m cap] 34 (0, 0)) := by rw [hW, hT, heap_at (by simp)]
      rw [← hW]
      clear hW hT hg2 hl2 c0 y0
      have c3 : W.cell? ⟨T + 1, 0, none⟩ = some (.slice ao m cap) := by rw [cell_of_row _ _ _ _ _ _ bT1]; rfl
      have hRW := HR.out.kn hWg
      have hBW := HR.out.2.1
      have HWS := hid hWs
      have HT4 := hid hT4
      refine (wpIn_wide (n := 4)).1 ?_
      refine wpIn_rangeFunc_ownH (F := Fence.wide) rfl (by decide) (gf := 84) (lb := #[.pointer (some ⟨T + 1, 0, none⟩)]) rfl trivial (enters_of Try.func84 (by kernel_rfl) rfl)
        (walk1_stops 3 w.heap.size (T + 1) l (.slice ao m cap) W c3 hRW.1 hRW.2.2 hBW (by omega)) (fun h k => h.trans k)
        (fun V q o o' hq hl _ _ => (Below.refl w.heap.size V).grown (grownBy_putObj' V q o') (by have := (Array.getElem?_eq_some_iff.1 hl).1; omega) (fun k e => by cases e; omega)) (Below.refl _ _) (fun _ => rfl)
        (PI w a W.heap.size T) (fun _ _ _ => False) (PI.own (by omega) (by omega)) (fun c => fun _ _ _ _ h _ _ => h) ⟨b1, b2, b3, ⟨_, bT, World.ownsRow_nil _ _ _ _, fun k hk => (by simp [Value.ownBlock] at hk)⟩, hWg, Nat.le_refl _⟩
        (PA W.heap.size (fun Bs Ns u v => { tmps := #[.agg #[.slice ao m cap], .int .i64 a, .pointer (some ⟨w.heap.size, 0, none⟩), .pointer (some ⟨w.heap.size + 1, 0, none⟩), .pointer (some ⟨w.heap.size + 1 + 1, 0, none⟩), .pointer (some ⟨w.heap.size + 1 + 1 + 1, 0, none⟩), .pointer (some ⟨T, 0, none⟩), .pointer (some ⟨Bs, 0, none⟩), .pointer (some ⟨Ns, 0, none⟩), .func (.func 61) #[] #[.pointer (some ⟨w.heap.size + 1 + 1, 0, none⟩), .pointer (some ⟨w.heap.size + 1 + 1 + 1, 0, none⟩)], .int .i64 a, .bool true, .bool false, .bool false, .agg #[.slice ao m cap], .bool true, .bool false, .bool false, undef, .agg #[.slice ao m cap], .func (.func 84) #[] #[.pointer (some ⟨T + 1, 0, none⟩)], u, v, undef, undef, undef, undef, undef, undef, undef, undef, undef, undef, undef, undef, undef, undef, undef, undef, undef, undef], defers := [] }))
        (fun x a' => PA.own) ?assign ?body ?done ?stop
      case assign =>
        intro lp pre x V K hi hK
        have HK := hid hK
        have HI := hid hi
        have hWV : W.heap.size ≤ V.heap.size := hi.sz
        have HVs := hid (show w.heap.size ≤ V.heap.size by omega)
        have HWV := hid hWV
        have hxk := x.2.1.1
        have HXK := hid hxk
        clear hxk
        clear hK hi b1 b2 b3 bT bT1 c3 hRW hBW hWs hWg hWV
        rw [fold_two]
        simp only [List.setIfInBounds_toArray, List.set_cons_succ, List.set_cons_zero]
        refine wpIn_seq_k' fun K1 k1 => ?_
        have HK1 := hid k1
        clear k1
        refine region_in (ro := some lp) (fun ⟨_, _, h⟩ => h) (by kernel_rfl) ?_
        go_wp2_with (first
          | (refine wpList_storeTYg rfl 89 (.tmp 7) (.tmp 21) rfl rfl rfl (tyS2 (span x.1).1 (span x.1).2) (heap_at rfl) rfl ?_; intro V2 g2 h2; have G2 := hid (grown_newR (World.grownBy_alloc V _ none) g2 (Nat.le_refl _)); have H2 := hid h2; clear g2 h2)
          | fail)
        refine HK1.out _ _ ?_
        refine region_in (ro := some lp) (fun ⟨_, _, h⟩ => h) (by kernel_rfl) ?_
        go_wp2_with (first
          | (refine wpList_storeTYg rfl 91 (.tmp 8) (.tmp 22) rfl rfl rfl (tyN x.1 HXK.out) (heap_at rfl) (by rw [ncells_len _ HXK.out]; rfl) ?_; intro V3 g3 h3; have G3 := hid (grown_newR (World.grownBy_alloc V2 _ none) g3 (Nat.le_refl _)); have H3 := hid h3; clear g3 h3)
          | fail)
        have G4 := grown_trans G2.out G3.out
        exact HK.out _ _ (keeps_none G4) (below_grown G4 HVs.out (fun k e => by cases e)) (HI.out.kn G4) ⟨V.heap.size, V2.heap.size, HWV.out, Nat.le_trans HWV.out G2.out.size, row_of G3.out H2.out (by simp), H3.out, rfl⟩
      case body =>
        intro lp pre x a' V hle hrec hi hax hlen
        obtain ⟨Bs, Ns, hBs, hNs, hb, hn, rfl⟩ := hax
        have HI := hid hi
        have HXK := hid x.2.1
        have HB := hid hb
        have HN := hid hn
        have HBs := hid hBs
        have HNs := hid hNs
        have RS := hid (show punP a ((pre ++ [x]).map (·.1)) = punP a (pre.map (·.1)) ++ if hasA a x.1 then oth a (34 - x.1.d).toNat x.1 else [x.1] by rw [List.map_append, List.map_cons, List.map_nil, punP_snoc])
        have HLP := hid (show (punP a (pre.map (·.1))).length + 34 ≤ 1099511627776 by
          have h1 := punP_len a (pre.map (·.1))
          rw [List.length_map] at h1
          have h2 : l.length ≤ 32768 := by have h := HVL.out; unfold vld at h; simp at h; exact h.1
          omega)
        obtain ⟨sa, sb, hsp⟩ : ∃ sa sb, span x.1 = (sa, sb) := ⟨_, _, rfl⟩
        have HQ := hid (show hasA a x.1 = (decide (sa ≤ a) && decide (a < sb)) by unfold hasA; rw [hsp])
        rw [hsp] at hb ⊢
        simp only at hb
        have c4 : V.cell? ⟨Bs, 0, none⟩ = some (.int .i64 sa) := by rw [cell_of_row _ _ _ _ _ _ hb]; rfl
        have c5 : V.cell? ⟨Bs, 1, none⟩ = some (.int .i64 sb) := by rw [cell_of_row _ _ _ _ _ _ hb]; rfl
        have c6 : V.cell? ⟨w.heap.size + 1, 0, none⟩ = some (.int .i64 a) := by rw [cell_of_row _ _ _ _ _ _ hi.h1]; rfl
        have y4 := block_lt_of_cell c4
        have y6 := block_lt_of_cell c6
        obtain ⟨v0, v1, v2, v3⟩ := hi.ho
        clear hi hb hn hBs hNs hlen hle hrec b1 b2 b3 bT bT1 c3 hRW hBW hWs hWg hsp
        obtain ⟨PL, hPL⟩ : ∃ PL, PL = punP a (pre.map (·.1)) := ⟨_, rfl⟩
        have HPL := hid hPL
        rw [← hPL] at v2 HLP RS
        obtain ⟨ad0, cp0, rfl, _⟩ := (Sl.of_own v2).shape
        have V1 := hid v1
        have V2 := hid v2
        have V3 := hid v3
        obtain ⟨n0, hn0⟩ : ∃ n0, n0 = PL.length := ⟨_, rfl⟩
        rw [← hn0] at V1 V2 V3 HLP
        have HN0 := hid hn0
        obtain ⟨UU, hUU⟩ : ∃ UU : Value, UU = sval2 (sa, sb) := ⟨_, rfl⟩
        obtain ⟨VV, hVV⟩ : ∃ VV : Value, VV = nval x.1 := ⟨_, rfl⟩
        rw [← hUU, ← hVV]
        clear hUU hVV hPL v1 v2 v3 hn0
        refine wpIn_block ?_
        change (Code.seq _ _).wpIn (Wd (some lp)) _ _ _ _ _
        refine wpIn_seq_k' fun K1 k1 => ?_
        have HK1 := hid k1
        clear k1
        refine region_in (ro := some lp) (fun ⟨_, _, h⟩ => h) (by kernel_rfl) ?_
        go_wp2_with fail
        refine (contains_walk sa sb a _).mono ?_
        rintro e w4 ⟨rfl, g4⟩
        have G4 := hid g4
        have I4 := hid (HI.out.kn g4)
        have N4 := hid (row_of g4 HN.out (by simp))
        have T4 := hid (row_of g4 V1.out (by simp))
        have O4 := hid (V2.out.kn g4)
        have c6 := g4.cell (a := ⟨w.heap.size + 1, 0, none⟩) (v := .int .i64 a) c6 (by simp)
        have y6 := block_lt_of_cell c6
        have c7 : w4.cell? ⟨T, 0, none⟩ = some (.slice ad0 n0 cp0) := by rw [cell_of_row _ _ _ _ _ _ T4.out]; rfl
        have y7 := block_lt_of_cell c7
        clear g4 c4 c5 y4
        by_cases hq : (decide (sa ≤ a) && decide (a < sb)) = true
        · simp only [hq]
          have HOK := hid (hasA_ok (HQ.out.trans hq))
          have RS2 := hid (show punP a ((pre ++ [x]).map (·.1)) = PL ++ oth a (34 - x.1.d).toNat x.1 by rw [RS.out, HQ.out, hq]; rfl)
          clear hq
          go_wp2
          refine HK1.out _ _ (wpIn_cond_true rfl ?_)
          clear HK1
          have AB := hid (show 0 ≤ a ∧ a < 17179869184 by have h := HA.out; unfold isAddr at h; simp at h; exact h)
          have HL6 := hid (show ∀ w', w4.grownBy w' none → (Instr.loadAt 32 (.pointer (some ⟨T, 0, none⟩))).run Try.prog w' = .ok (.slice ad0 n0 cp0) w' from fun w' g => loadsAt (tyNs _ rfl) (rangeAt_row (row_of g T4.out (by simp))))
          have HL8 := hid (show ∀ w', w4.grownBy w' none → (Instr.loadAt 91 (.pointer (some ⟨Ns, 0, none⟩))).run Try.prog w' = .ok (nval x.1) w' from fun w' g => loadsAt (tyN x.1 HXK.out.1) (rangeAt_row (row_of g N4.out (by simp))))
          have HL3 := hid (show ∀ w', w4.grownBy w' none → (Instr.loadAt 2 (.pointer (some ⟨w.heap.size + 1, 0, none⟩))).run Try.prog w' = .ok (.int .i64 a) w' from fun w' g => loadsAt (tyI a) (rangeAt_row (row_of g I4.out.h1 (by simp))))
          have HOT := hid (show ∀ W, w4.grownBy W none → Calls Try.prog 62 #[nval x.1, .int .i64 a] W fun e W' => ∃ v, e = .returned v ∧ W.grownBy W' none ∧ (Sp.own w4.heap.size 91 34 (34 - x.1.d).toNat (tcells (oth a (34 - x.1.d).toNat x.1))).on W' v from fun W hW =>
            (others_walk x.1 a HXK.out HOK.out AB.out W).mono fun e W' ⟨v, he, ho, hf⟩ => ⟨v, he, hf.none, by rw [oth_len] at ho; exact ho, fun k hk => (hf.2 k hk).elim (fun h => by simp [nilS, Value.ownBlock] at h) (fun h => Nat.le_trans hW.size h)⟩)
          clear c6 y6 c7 y7
          refine region_tail_in (ro := some lp) (fun ⟨_, _, h⟩ => h) (by kernel_rfl) (by kernel_rfl) 41 rfl 4 [none, none, none, none, none, none, none, none, none, none, none, none, none, none, none, none, none, none, none, none, none, none, none, none, none, none, some (Sp.is (.slice ad0 n0 cp0)), some (Sp.is (nval x.1)), some (Sp.is (.int .i64 a)), some (Sp.own w4.heap.size 91 34 (34 - x.1.d).toNat (tcells (oth a (34 - x.1.d).toNat x.1))), none, none, none, none, none, none, none, none, none, none, none]
            (by kernel_rfl) (by kernel_rfl) (by kernel_rfl)
            ⟨ob_loadT rfl rfl trivial ⟨by decide, fun _ _ h => h⟩ HL6.out (fun _ => rfl),
             ob_loadT rfl rfl trivial ⟨by decide, fun _ _ h => h⟩ HL8.out (fun _ => rfl),
             ob_loadT rfl rfl trivial ⟨by decide, fun _ _ h => h⟩ HL3.out (fun _ => rfl),
             ob_callS (Sp.own w4.heap.size 91 34 (34 - x.1.d).toNat (tcells (oth a (34 - x.1.d).toNat x.1))) [nval x.1, .int .i64 a] rfl rfl trivial ⟨⟨by decide, fun _ _ h => h⟩, ⟨by decide, fun _ _ h => h⟩, trivial⟩ HOT.out (fun _ _ h => h) (enter_of Try.func62 (by kernel_rfl) rfl), trivial⟩
            [] (by kernel_rfl) (fun _ _ _ _ h => by cases h) (fun _ h => by cases h) ?_
          intro xx W5 g5 hx _
          have e26 : xx 26 = .slice ad0 n0 cp0 := hx 26 _ rfl (by decide)
          have e27 : xx 27 = nval x.1 := hx 27 _ rfl (by decide)
          have e28 : xx 28 = .int .i64 a := hx 28 _ rfl (by decide)
          obtain ⟨o29, f29⟩ := hx 29 _ rfl (by decide)
          simp only [fillO]
          rw [e26, e27, e28]
          generalize xx 29 = v29 at *
          have O29 := hid o29
          have G45 := hid g5
          have T5 := hid (row_of g5 T4.out (by simp))
          have O5 := hid (O4.out.kn g5)
          have I5 := hid (I4.out.kn g5)
          have OL := hid (oth_len (a := a) (34 - x.1.d).toNat x.1)
          have OD := hid (okN_iff.1 HOK.out).1
          clear hx e26 e27 e28 o29 f29 g5 HL6 HL8 HL3 HOT
          simp only [List.drop_succ_cons, List.drop_zero]
          go_wp2_with (first
            | (refine wpList_app nodesT rfl (.tmp 26) (.tmp 29) rfl (.slice ad0 n0 cp0) n0 (tcells PL) rfl O5.out v29 (34 - x.1.d).toNat (tcells (oth a (34 - x.1.d).toNat x.1)) rfl (Sl.of_own O29.out) (tcells_one' _) (by have := HLP.out; have := OD.out; omega) ?_; intro v3 w3 o3 s3; obtain ⟨ad3, cp3, rfl, _⟩ := (Sl.of_own o3).shape; have O3 := hid o3; have S3 := hid s3; have B3 := hid (row_of s3.1 T5.out (fun e => Own.ne O5.out T5.out (by decide) e.symm)); clear o3 s3)
            | (refine wpList_storeTYg rfl 32 (.tmp 6) (.tmp 30) rfl rfl rfl (tyNs _ rfl) B3.out rfl ?_; intro w5 g5 h5; have G5 := hid g5; have H5 := hid h5; clear g5 h5)
            | fail)
          have hwV := HI.out.gr.size
          have h4s := G4.out.size
          have h45s := G45.out.size
          have h3s := S3.out.1.size
          have hT3 : w.heap.size + 3 < T := by have := HT4.out; omega
          exact ⟨(keeps_none (grown_trans G4.out G45.out)).trans ((keeps_own O5.out S3.out.1).trans (keeps_row G5.out B3.out)), (below_grown (grown_trans G4.out G45.out) hwV (fun k e => by cases e)).trans ((below_grown S3.out.1 (by omega) (fun k e => V3.out k e)).trans (below_grown G5.out (by omega) (fun k e => by cases e; omega))),
            I5.out.next hT3 T5.out V3.out RS2.out O5.out HN0.out OL.out.symm rfl O3.out S3.out G5.out H5.out⟩
        · have RS2 := hid (show punP a ((pre ++ [x]).map (·.1)) = PL ++ [x.1] by rw [RS.out, HQ.out, if_neg hq])
          simp only [Bool.not_eq_true] at hq
          simp only [hq]
          clear hq
          go_wp2
          refine HK1.out _ _ (wpIn_cond_false rfl ?_)
          refine region_in (ro := some lp) (fun ⟨_, _, h⟩ => h) (by kernel_rfl) ?_
          go_wp2_with (first
            | (refine wpList_storeTYg rfl 32 (.tmp 6) (.tmp 34) rfl rfl rfl (tyNs _ rfl) B3.out rfl ?_; intro w5 g5 h5; have G5 := hid g5; have H5 := hid h5; clear g5 h5)
            | (refine wpList_loadTY rfl 91 (.tmp 8) rfl rfl (tyN x.1 HXK.out.1) N4.out ?_)
            | (refine wpList_buildSliceR rfl 32 1 _ rfl #[(0, nval x.1)] (by simp only [List.map_toArray, List.map_cons, List.map_nil, Act.eval]; rfl) (bS1 x.1 HXK.out.1 _) ?_)
            | (refine wpList_pushH nodesT rfl (.tmp 31) (.tmp 33) rfl (.slice ad0 n0 cp0) n0 (tcells PL) rfl O4.out (ncells x.1) 1 _ rfl rfl (by rw [ncells_len _ HXK.out.1]) (ncells_one _) (by have := HLP.out; omega) ?_; intro v3 w3 o3 s3; obtain ⟨ad3, cp3, rfl, _⟩ := (Sl.of_own o3).shape; have O3 := hid o3; have S3 := hid s3; have B3 := hid (row_of s3.1 T4.out (fun e => Own.ne O4.out T4.out (by decide) e.symm)); clear o3 s3)
            | fail)
          have hwV := HI.out.gr.size
          have h4s := G4.out.size
          have h3s := S3.out.1.size
          have hT3 : w.heap.size + 3 < T := by have := HT4.out; omega
          exact ⟨(keeps_none G4.out).trans ((keeps_own O4.out S3.out.1).trans (keeps_row G5.out B3.out)), (below_grown G4.out hwV (fun k e => by cases e)).trans ((below_grown S3.out.1 (by omega) (fun k e => V3.out k e)).trans (below_grown G5.out (by omega) (fun k e => by cases e; omega))),
            I4.out.next hT3 T4.out V3.out RS2.out O4.out HN0.out rfl (tcells_one _).symm O3.out S3.out G5.out H5.out⟩
      case done =>
        intro D xs V hD hS hI hK
        subst hS
        obtain ⟨v0, v1, v2, v3⟩ := hI.ho
        obtain ⟨ad0, cp0, rfl, _⟩ := (Sl.of_own v2).shape
        have HI := hid hI
        have HKK := hid hK
        have HD := hid hD
        obtain ⟨PL, hPL⟩ : ∃ PL, PL = punP a (xs.map (·.1)) := ⟨_, rfl⟩
        have HZ := hid (show gl = if 32768 < PL.length then ([], 8) else (PL, 0) by rw [HV.out]; unfold punOf; rw [if_pos (by rw [Bool.and_eq_true]; exact ⟨HA.out, HVL.out⟩), hPL])
        rw [← hPL] at v1 v2 v3
        obtain ⟨n0, hn0⟩ : ∃ n0, n0 = PL.length := ⟨_, rfl⟩
        have HN0 := hid hn0
        rw [← hn0] at v1 v2 v3 HZ
        have c7 : V.cell? ⟨T, 0, none⟩ = some (.slice ad0 n0 cp0) := by rw [cell_of_row _ _ _ _ _ _ v1]; rfl
        have y7 := block_lt_of_cell c7
        have V1 := hid v1
        have V2 := hid v2
        have V3 := hid v3
        have X2 := hid hI.h2
        have X3 := hid hI.h3
        clear hI hK hD v1 v2 v3 hPL hn0 b1 b2 b3 bT bT1 c3 hRW hBW hWs hWg
        by_cases hbig : 32768 < n0
        · have t1 : decide ((32768 : Int) < (n0 : Int)) = true := by simp; omega
          have HZ2 := hid (show gl = ([], 8) by rw [HZ.out, if_pos hbig])
          clear hbig
          go_wp2_with (first
            | (refine wpList_buildR rfl 34 _ rfl #[] (by simp) (bT0 _) ?_)
            | (refine wpList_storeTYg rfl 34 (.tmp 4) (.tmp 38) rfl rfl rfl (tyT (.slice none 0 0) rfl) X2.out rfl ?_; intro w5 g5 h5; have G5 := hid g5; have H5 := hid h5; have Y5 := hid (row_of g5 X3.out (by simp)); clear g5 h5)
            | (refine wpList_storeTYg rfl 23 (.tmp 5) (.const (.int .i64 8)) rfl rfl rfl (tyE 8) Y5.out rfl ?_; intro w6 g6 h6; have G6 := hid g6; have H6 := hid h6; have X6 := hid (row_of g6 H5.out (by simp)); clear g6 h6)
            | fail)
          have HKK2 := row_of G6.out (row_of G5.out HKK.out (by have := HWS.out; have := HD.out; have := HT4.out; simp; omega)) (by have := HWS.out; have := HD.out; have := HT4.out; simp; omega)
          refine leavesM_mark HKK2 ?_
          have GP := grownBy_putObj' w6 D (.deferred none)
          have P5 := row_of GP X6.out (by have := HWS.out; have := HD.out; have := HT4.out; simp; omega)
          have P6 := row_of GP H6.out (by have := HWS.out; have := HD.out; have := HT4.out; simp; omega)
          refine leavesM_fn (f := 61) (args := #[.pointer (some ⟨w.heap.size + 1 + 1, 0, none⟩), .pointer (some ⟨w.heap.size + 1 + 1 + 1, 0, none⟩)]) (by simp [go_sem]) ?_
          refine (recPunct_walk _ _ _ _).mono ?_
          rintro e u' w' ⟨rfl, rfl, rfl⟩
          refine ⟨⟨_, rfl⟩, rfl, leavesM_nil (results2 (p := 4) (q := 5) (b0 := w.heap.size + 2) (b1 := w.heap.size + 3) rfl rfl rfl (tyT (.slice none 0 0) rfl) (tyE 8) P5 P6) ⟨.slice none 0 0, by rw [HZ2.out], by rw [HZ2.out]; exact World.ownsRow_nil _ _ _ _, Step.fresh (grown_newR (grown_newR (grown_newR HI.out.gr G5.out (by omega)) G6.out (by omega)) GP (by have := HWS.out; have := HD.out; have := HT4.out; omega)) (fun k hk => by simp [Value.ownBlock] at hk)⟩⟩
        · have t1 : decide ((32768 : Int) < (n0 : Int)) = false := by simp; omega
          have HZ2 := hid (show gl = (PL, 0) by rw [HZ.out, if_neg hbig])
          clear hbig
          go_wp2_with (first
            | (refine wpList_buildR rfl 34 _ rfl #[(0, .slice ad0 n0 cp0)] (by simp only [List.map_toArray, List.map_cons, List.map_nil, Act.eval]; rfl) (bT1 _ _ _ _) ?_)
            | (refine wpList_storeTYg rfl 34 (.tmp 4) (.tmp 40) rfl rfl rfl (tyT (.slice ad0 n0 cp0) rfl) X2.out rfl ?_; intro w5 g5 h5; have G5 := hid g5; have H5 := hid h5; have Y5 := hid (row_of g5 X3.out (by simp)); clear g5 h5)
            | (refine wpList_storeTYg rfl 23 (.tmp 5) (.const (.int .i64 0)) rfl rfl rfl (tyE 0) Y5.out rfl ?_; intro w6 g6 h6; have G6 := hid g6; have H6 := hid h6; have X6 := hid (row_of g6 H5.out (by simp)); clear g6 h6)
            | fail)
          have HKK2 := row_of G6.out (row_of G5.out HKK.out (by have := HWS.out; have := HD.out; have := HT4.out; simp; omega)) (by have := HWS.out; have := HD.out; have := HT4.out; simp; omega)
          have OW6 := (V2.out.past G5.out X2.out (by decide)).past G6.out Y5.out (by decide)
          refine leavesM_mark HKK2 ?_
          have GP := grownBy_putObj' w6 D (.deferred none)
          have OW7 := OW6.kept GP (OW6.cellsRow HKK2 rfl)
          have P5 := row_of GP X6.out (by have := HWS.out; have := HD.out; have := HT4.out; simp; omega)
          have P6 := row_of GP H6.out (by have := HWS.out; have := HD.out; have := HT4.out; simp; omega)
          refine leavesM_fn (f := 61) (args := #[.pointer (some ⟨w.heap.size + 1 + 1, 0, none⟩), .pointer (some ⟨w.heap.size + 1 + 1 + 1, 0, none⟩)]) (by simp [go_sem]) ?_
          refine (recPunct_walk _ _ _ _).mono ?_
          rintro e u' w' ⟨rfl, rfl, rfl⟩
          refine ⟨⟨_, rfl⟩, rfl, leavesM_nil (results2 (p := 4) (q := 5) (b0 := w.heap.size + 2) (b1 := w.heap.size + 3) rfl rfl rfl (tyT (.slice ad0 n0 cp0) rfl) (tyE 0) P5 P6) ⟨.slice ad0 n0 cp0, by rw [HZ2.out], by rw [HZ2.out, ← HN0.out]; exact OW7, Step.fresh (grown_newR (grown_newR (grown_newR HI.out.gr G5.out (by omega)) G6.out (by omega)) GP (by have := HWS.out; have := HD.out; have := HT4.out; omega)) (fun k hk => V3.out k hk)⟩⟩
      case stop =>
        intro D c pre V hD hS hI hK
        exact hI.elim
    · have HX1 := hid hv
      simp only [Bool.not_eq_true] at hv
      simp only [hv]
      clear hv
      go_wp2_with (first
        | (refine wpList_buildR rfl 34 _ rfl #[] (by simp) (bT0 _) ?_)
        | (refine wpList_storeTYg rfl 34 (.tmp 4) (.tmp 18) rfl rfl rfl (tyT (.slice none 0 0) rfl) (row_of G2.out Z2.out (by simp)) rfl ?_; intro w5 g5 h5; have G5 := hid g5; have H5 := hid h5; have Y5 := hid (row_of g5 (row_of G2.out Z3.out (by simp)) (by simp)); clear g5 h5)
        | (refine wpList_storeTYg rfl 23 (.tmp 5) (.const (.int .i64 1)) rfl rfl rfl (tyE 1) Y5.out rfl ?_; intro w6 g6 h6; have G6 := hid g6; have H6 := hid h6; have X6 := hid (row_of g6 H5.out (by simp)); clear g6 h6)
        | fail)
      refine leavesM_fn (f := 61) (args := #[.pointer (some ⟨w.heap.size + 1 + 1, 0, none⟩), .pointer (some ⟨w.heap.size + 1 + 1 + 1, 0, none⟩)]) (by simp [go_sem]) ?_
      refine (recPunct_walk _ _ _ _).mono ?_
      rintro e u' w' ⟨rfl, rfl, rfl⟩
      have HZ := hid (show gl = ([], 1) by rw [HV.out]; unfold punOf; rw [if_neg (by rw [Bool.and_eq_true]; exact fun h => HX1.out h.2)])
      refine ⟨⟨_, rfl⟩, rfl, leavesM_nil (results2 (p := 4) (q := 5) (b0 := w.heap.size + 2) (b1 := w.heap.size + 3) rfl rfl rfl (tyT (.slice none 0 0) rfl) (tyE 1) X6.out H6.out) ⟨.slice none 0 0, by rw [HZ.out], by rw [HZ.out]; exact World.ownsRow_nil _ _ _ _, Step.fresh (grown_newR (grown_newR (grown_trans HG0.out G2.out) G5.out (by omega)) G6.out (by omega)) (fun k hk => by simp [Value.ownBlock] at hk)⟩⟩
  · have HX2 := hid ha
    simp only [Bool.not_eq_true] at ha
    simp only [ha]
    clear ha
    go_wp2_with (first
      | (refine wpList_buildR rfl 34 _ rfl #[] (by simp) (bT0 _) ?_)
      | (refine wpList_storeTYg rfl 34 (.tmp 4) (.tmp 18) rfl rfl rfl (tyT (.slice none 0 0) rfl) Z2.out rfl ?_; intro w5 g5 h5; have G5 := hid g5; have H5 := hid h5; have Y5 := hid (row_of g5 Z3.out (by simp)); clear g5 h5)
      | (refine wpList_storeTYg rfl 23 (.tmp 5) (.const (.int .i64 1)) rfl rfl rfl (tyE 1) Y5.out rfl ?_; intro w6 g6 h6; have G6 := hid g6; have H6 := hid h6; have X6 := hid (row_of g6 H5.out (by simp)); clear g6 h6)
      | fail)
    refine leavesM_fn (f := 61) (args := #[.pointer (some ⟨w.heap.size + 1 + 1, 0, none⟩), .pointer (some ⟨w.heap.size + 1 + 1 + 1, 0, none⟩)]) (by simp [go_sem]) ?_
    refine (recPunct_walk _ _ _ _).mono ?_
    rintro e u' w' ⟨rfl, rfl, rfl⟩
    have HZ := hid (show gl = ([], 1) by rw [HV.out]; unfold punOf; rw [if_neg (by rw [Bool.and_eq_true]; exact fun h => HX2.out h.1)])
    refine ⟨⟨_, rfl⟩, rfl, leavesM_nil (results2 (p := 4) (q := 5) (b0 := w.heap.size + 2) (b1 := w.heap.size + 3) rfl rfl rfl (tyT (.slice none 0 0) rfl) (tyE 1) X6.out H6.out) ⟨.slice none 0 0, by rw [HZ.out], by rw [HZ.out]; exact World.ownsRow_nil _ _ _ _, Step.fresh (grown_newR (grown_newR HG0.out G5.out (by omega)) G6.out (by omega)) (fun k hk => by simp [Value.ownBlock] at hk)⟩⟩
end Go.Proofs.Yteakoleceoclkaa
