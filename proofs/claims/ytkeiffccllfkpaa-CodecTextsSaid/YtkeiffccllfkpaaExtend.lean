/- extend of the program; the deferred recover of the functions Append. -/
import Derived.Test.YtkeiffccllfkpaaOps
import Derived.Test.YtkeiffccllfkpaaInts
namespace Go.Proofs.Ytkeiffccllfkpaa
open Go.RowKit

/-- an append that must grow: the first slice is whatever it is, without spare room -/
theorem run_grow {P : Program} {t e : TypeId} {z : Value} {size bytes : Nat} (E : ET P t e z size bytes) (ty : TypeId) {w : World} {ao : Option Addr} {n : Nat} {xs : List Value} (hv : Sl w size (.slice ao n n) n xs)
    {sv : Value} {m : Nat} {news : List Value} (hs : Sl w size sv m news) (hm : 0 < m) (h1 : news.all Value.oneCell' = true) (h63 : n + m ≤ 1099511627776) :
    ∃ v' w', (Builtin.append_ #[t, t] ty #[.slice ao n n, sv]).run P w = .ok v' w' ∧ Own w' e size v' (n + m) (xs ++ news) ∧ Fresh w w' v' := by
  obtain ⟨hlx, ao', cap', hvv, _, _, h3, h4⟩ := hv
  simp only [Value.slice.injEq] at hvv
  obtain ⟨rfl, _, rfl⟩ := hvv
  cases ao with
  | none =>
    obtain rfl := h3 rfl
    have hx : xs = [] := List.eq_nil_of_length_eq_zero (by simpa using hlx)
    subst hx
    obtain ⟨v', w', h5, h6, h7⟩ := run_app E ty (Own.nil w e size) hs h1 (by omega)
    exact ⟨v', w', h5, h6, h7⟩
  | some a =>
    obtain ⟨b, off, spot⟩ := a
    obtain ⟨hsp, hc⟩ := h4 _ rfl
    simp at hsp
    subst hsp
    obtain ⟨i, hi, hz, rfl, hby⟩ := E.inf
    have hb := E.bnd
    obtain ⟨hl, ao2, cap, rfl, hm1, hm2, h3', h4'⟩ := hs
    cases ao2 with
    | none => have := h3' rfl; omega
    | some ad =>
      obtain ⟨b2, off2, spot⟩ := ad
      obtain ⟨hsp, hc2⟩ := h4' _ rfl
      simp at hsp
      subst hsp
      have hbytes : (n + m) * bytes ≤ 140737488355328 := by
        have : (n + m) * bytes ≤ 1099511627776 * 128 := Nat.mul_le_mul h63 hb
        omega
      have hcm : grownCap w (n + m) n e ≤ maxLen := grownCap_le_maxLen w (n + m) n e (by unfold maxLen; omega)
      have hge := grownCap_ge w (n + m) n e
      refine ⟨_, _, run_append_grow (P := P) w t ty e i z E.und hi hz ⟨b, off, none⟩ n n xs hlx (fun j u hu => by rw [Addr.add_lit]; exact hc j u hu) ⟨b2, off2, none⟩ m cap news hl (fun j u hu => by rw [Addr.add_lit]; exact hc2 j u hu) (by omega) (by omega)
        (growslice_fits (by omega) (by subst hby; exact hbytes)), ⟨by rw [List.length_append, hlx, hl, Nat.add_mul], .inr ⟨w.heap.size, _, _, rfl, Nat.zero_le _, heap_alloc_new w.drew _, hge, hcm, ?_, ?_⟩⟩, ⟨⟨rfl, rfl, rfl, by simp, fun k hk _ => heap_alloc_old w.drew _ hk⟩, fun k hk => .inr ?_⟩⟩
      · have hz1 := E.zsz
        simp only [Array.size_append, List.size_toArray, size_zeroCells, hz1, hlx, hl, ← Nat.add_mul]
        congr 1
        omega
      · simp only [Array.toList_append, List.append_assoc]
        rw [← List.append_assoc, Nat.add_mul, ← hlx, ← hl, ← List.length_append]
        exact List.take_left
      · simp [Value.ownBlock] at hk
        omega
theorem wpList_grow {P : Program} {t e : TypeId} {z : Value} {size bytes : Nat} (E : ET P t e z size bytes) {w : World} {ops : Array Oper} {rest : List Oper} {o : Oper} {a : Act} {Q : Exit → Act → World → Prop}
    (hgd : o.guard = none) (s x : Operand) (ho : o.op = .call { callee := .builtin .append, args := #[s, x], argTypes := #[t, t] })
    (ao : Option Addr) (n : Nat) (xs : List Value) (hs : a.eval s = .slice ao n n) (hv : Sl w size (.slice ao n n) n xs)
    (sv : Value) (m : Nat) (news : List Value) (hx : a.eval x = sv) (hsl : Sl w size sv m news) (hm : 0 < m) (h1 : news.all Value.oneCell' = true) (h63 : n + m ≤ 1099511627776)
    (h : ∀ v' w', Own w' e size v' (n + m) (xs ++ news) → Fresh w w' v' → wpList P ops Q rest (a.put o.dst v') w') :
    wpList P ops Q (o :: rest) a w := by
  refine wpList_plain hgd fun K hK => ?_
  obtain ⟨v', w', hr, h2, h3⟩ := run_grow E o.type hv hsl hm h1 h63
  unfold Oper.wp execOp
  simp only [ho, resolve, invoke, builtin, Sem.run_bind, Sem.run_pure, Result.andThen_ok, List.map_toArray, List.map_cons, List.map_nil, hs, hx, hr]
  exact hK _ _ (h v' w' h2 h3)
theorem bv_cells (l : List Nat) : (bv l).all Value.oneCell' = true := by simp [bv, Value.oneCell']

set_option maxRecDepth 100000 in
theorem extend_walk (v s : Value) (xs ys : List Nat) (w : World) (hv : Sl w 1 v xs.length (bv xs)) (hs : Sl w 1 s ys.length (bv ys)) (hm : 0 < ys.length) (h63 : xs.length + ys.length ≤ 1099511627776) :
    Calls Try.prog 88 #[v, s] w fun e w' => ∃ v', e = .returned v' ∧ Own w' 5 1 v' (xs ++ ys).length (bv (xs ++ ys)) ∧ Fresh w w' v' := by
  obtain ⟨ao, cap, rfl, hnc, hcm⟩ := hv.shape
  obtain ⟨ao2, cap2, rfl, hnc2, hcm2⟩ := hs.shape
  go_enter Try.func88, Try.ntmps88
  have hv' : Sl w 1 (.slice ao xs.length xs.length) xs.length (bv xs) := by
    obtain ⟨h1, ao', cap', h2, h3, h4, h5, h6⟩ := hv
    simp only [Value.slice.injEq] at h2
    obtain ⟨rfl, _, rfl⟩ := h2
    exact ⟨h1, ao, _, rfl, Nat.le_refl _, by omega, fun h => by have := h5 h; omega, h6⟩
  go_wp2_with (at_builtin; go_must (refine wpList_grow bytesT rfl _ _ rfl _ _ _ rfl hv' _ _ _ rfl hs hm (bv_cells _) h63 ?_; intro v' w' hown' hg'))
  go_ret
  exact ⟨_, rfl, by rw [List.length_append, bv_append]; exact hown', hg'⟩

theorem recover_walk (w : World) : CallsD Try.prog 87 #[] .returning w fun e u' w' => e = .returned (.tuple #[]) ∧ u' = .returning ∧ w' = w := by
  refine callsD_of_wpS Try.func87 rfl fun c₀ cs hu => ?_
  apply wpS_region
  simp [wpOpsS, go_sem, recoverD, hu, Try.ntmps87]
  cases c₀
  simp_all [bodyPostS, results, Try.results87]

/-- the one integer that is handed over in a new block -/
theorem one_sl (w : World) (c : Value) (t : TypeId) : Sl (w.alloc (.cells #[c] t)) 1 (.slice (some ⟨w.heap.size, 0, none⟩) 1 1) 1 [c] :=
  ⟨rfl, _, _, rfl, Nat.le_refl _, by decide, fun h => (by cases h), fun a ha => by
    obtain rfl := Option.some.inj ha
    refine ⟨rfl, fun j u hu => ?_⟩
    rw [Nat.zero_add, World.cell?_alloc_at _ _ _ _ rfl]
    simpa using hu⟩

set_option maxRecDepth 100000 in
theorem appendInt_walk (v : Value) (n : Int) (xs : List Nat) (w : World) (hv : Sl w 1 v xs.length (bv xs)) (hvb : ∀ k, v.ownBlock = some k → k < w.heap.size) (h0 : -9223372036854775808 ≤ n) (h1 : n ≤ 9223372036854775807) (h63 : xs.length + 10 ≤ 1099511627776) :
    Calls Try.prog 19 #[v, .int .i64 n] w fun e w' => ∃ v', e = .returned v' ∧ Own w' 5 1 v' (xs ++ enc n).length (bv (xs ++ enc n)) ∧ Fresh w w' v' := by
  have hel := enc_len h0 h1
  have hep := leb_pos (zig n)
  go_enter_defers Try.func19, Try.ntmps19
  go_wp2_with fail
  refine (ints_walk nilS _ [] [n] _ (Own.nil _ _ _) (one_sl _ _ _) (.inr (by simp [Value.ownBlock])) (by simp; omega) (by simp)).mono ?_
  rintro e w1 ⟨v1, rfl, hown1, hg1⟩
  simp only [List.nil_append, List.flatMap_cons, List.flatMap_nil, List.append_nil] at hown1
  have hg1' := hg1.alloc
  have hv1 := hv.below (none_below hg1'.1) hvb
  go_wp2_with fail
  refine (extend_walk v v1 xs (enc n) _ hv1 (Sl.of_own hown1) hep (by omega)).mono ?_
  rintro e w2 ⟨v2, rfl, hown2, hg2⟩
  go_wp2
  refine leaves_cons (f := 87) (args := #[]) (by simp) (by simp [go_sem]) ?_
  refine (recover_walk _).mono ?_
  rintro e u' w'' ⟨rfl, rfl, rfl⟩
  exact ⟨v2, results_tmp (t := 4) rfl _ _ _, _, rfl, hown2, Step.grown hg1'.1 hg2⟩
end Go.Proofs.Ytkeiffccllfkpaa
