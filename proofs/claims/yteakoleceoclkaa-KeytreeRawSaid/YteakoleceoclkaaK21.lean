/- Key trees: different of the laws. -/
import Derived.Test.YteakoleceoclkaaK20
import Derived.Test.YteakoleceoclkaaQ7
namespace Go.Proofs.Yteakoleceoclkaa
open Go.RowKit Go.Shelf
set_option linter.unusedSimpArgs false
set_option linter.unusedVariables false
attribute [local go_sem] Oper.semAt_some

def ic (l : List Int) : List Value := l.flatMap fun n => [.int .i64 n]
theorem ic_len (l : List Int) : (ic l).length = l.length := by
  induction l with
  | nil => rfl
  | cons x l ih => unfold ic at *; rw [List.flatMap_cons, List.length_append, ih, List.length_cons]; simp; omega
theorem ic_get (l : List Int) (i : Nat) (h : i < l.length) : (ic l)[i]? = some (.int .i64 l[i]) := by
  induction l generalizing i with
  | nil => simp at h
  | cons x l ih =>
    unfold ic at *
    rw [List.flatMap_cons]
    cases i with
    | zero => rfl
    | succ i => simpa using ih i (by simpa using h)
theorem ic_snoc (l : List Int) (x : Int) : ic (l ++ [x]) = ic l ++ [.int .i64 x] := by unfold ic; rw [List.flatMap_append]; rfl
theorem irange {w : World} {ao : Option Addr} {n cap : Nat} {l : List Int} (h : Sl w 1 (.slice ao n cap) n (ic l)) {i : Nat} (hi : i < l.length) : ∃ b off, ao = some ⟨b, off, none⟩ ∧ w.cell? ⟨b, off + i, none⟩ = some (.int .i64 l[i]) := by
  have hl := ic_len l
  obtain ⟨b, off, hb, hc⟩ := Sl.at h 0 (by rw [hl]; omega)
  refine ⟨b, off, hb, ?_⟩
  rw [hc i (by rw [hl]; exact hi)]
  have := ic_get l i hi
  rw [List.getElem?_eq_getElem (by rw [hl]; exact hi)] at this
  exact this
/-- the first addresses of a list, each once -/
def difs (most : Nat) : List Int → List Int → List Int
  | out, [] => out
  | out, x :: l => if out.length < most then (if adr x ∈ out then difs most out l else difs most (out ++ [adr x]) l) else out
theorem adr_range (n : Int) : 0 ≤ adr n ∧ adr n < 17179869184 := by
  have e : adr n = IntKind.i64.wrap (((BitVec.ofInt 64 n) &&& (BitVec.ofInt 64 17179869183)).toNat : Int) := rfl
  have h : ((BitVec.ofInt 64 n) &&& (BitVec.ofInt 64 17179869183)).toNat ≤ 17179869183 := by
    rw [BitVec.toNat_and]
    exact Nat.le_trans Nat.and_le_right (by decide)
  rw [e, IntKind.wrap_i64]
  omega
theorem adr_isAddr (n : Int) : isAddr (adr n) = true := isAddr_iff.2 (adr_range n)
theorem difs_addr (most : Nat) : ∀ (l out : List Int), (∀ a ∈ out, isAddr a = true) → ∀ a ∈ difs most out l, isAddr a = true := by
  intro l
  induction l with
  | nil => intro out h; exact h
  | cons x l ih =>
    intro out h
    rw [difs]
    split
    · split
      · exact ih out h
      · refine ih _ fun a ha => ?_
        rcases List.mem_append.1 ha with ha | ha
        · exact h a ha
        · obtain rfl := List.mem_singleton.1 ha; exact adr_isAddr x
    · exact h
theorem difs_len (most : Nat) : ∀ (l out : List Int), out.length ≤ most → (difs most out l).length ≤ most := by
  intro l
  induction l with
  | nil => intro out h; exact h
  | cons x l ih =>
    intro out h
    rw [difs]
    split
    · split
      · exact ih out h
      · exact ih _ (by rw [List.length_append, List.length_singleton]; omega)
    · exact h
theorem difs_nodup (most : Nat) : ∀ (l out : List Int), out.Nodup → (difs most out l).Nodup := by
  intro l
  induction l with
  | nil => intro out h; exact h
  | cons x l ih =>
    intro out h
    rw [difs]
    split
    · split
      · exact ih out h
      · rename_i hx
        refine ih _ (List.nodup_append.2 ⟨h, by simp, fun a ha b hb e => ?_⟩)
        obtain rfl := List.mem_singleton.1 hb
        exact hx (e ▸ ha)
    · exact h
theorem difs_full (most : Nat) {out : List Int} (l : List Int) (h : most ≤ out.length) : difs most out l = out := by
  cases l with
  | nil => rfl
  | cons x l => rw [difs, if_neg (by omega)]
theorem intsT : ET Try.prog 37 2 (.int .i64 0) 1 8 := ⟨Try.underlying37, info_parts (by kernel_rfl), rfl, by decide, by decide⟩
theorem mem_take_succ {l : List Int} {k : Nat} (hk : k < l.length) (x : Int) : x ∈ l.take (k + 1) ↔ x ∈ l.take k ∨ l[k] = x := by
  rw [List.take_succ_eq_append_getElem hk, List.mem_append, List.mem_singleton]
  exact ⟨fun h => h.elim .inl fun h => .inr h.symm, fun h => h.elim .inl fun h => .inr h.symm⟩
theorem Fresh.then_ {w W W' : World} {v : Value} (h : Fresh w W v) (g : W.grownBy W' none) : Fresh w W' v :=
  Step.fresh (grown_trans h.none g) fun k hk => (h.2 k hk).elim (fun h => by simp [nilS, Value.ownBlock] at h) id
theorem Fresh.step {w W W' : World} {v v' : Value} (h : Fresh w W v) (s : Step W v W' v') : Fresh w W' v' := by
  have hb : ∀ k, v.ownBlock = some k → w.heap.size ≤ k := fun k hk => (h.2 k hk).elim (fun h => by simp [nilS, Value.ownBlock] at h) id
  exact Step.fresh (grown_from h.none s.1 hb) fun k hk => (s.2 k hk).elim (hb k) (fun h1 => Nat.le_trans h.none.size h1)
set_option maxRecDepth 100000 in
set_option maxHeartbeats 4000000 in
theorem different_walk (l : List Int) (v : Value) (most : Nat) (hm : most ≤ 100) (w : World) (hv : Sl w 1 v l.length (ic l)) (hll : l.length ≤ 9223372036854775807) :
    Calls Try.prog 28 #[v, .int .i64 (most : Int)] w fun e w' => ∃ ao cap, e = .returned (.slice ao (difs most [] l).length cap) ∧ Own w' 2 1 (.slice ao (difs most [] l).length cap) (difs most [] l).length (ic (difs most [] l)) ∧ Fresh w w' (.slice ao (difs most [] l).length cap) := by
  obtain ⟨ao, cap, rfl, p1, p2⟩ := hv.shape
  have HV := hid hv
  obtain ⟨r, hr⟩ : ∃ r, r = difs most [] l := ⟨_, rfl⟩
  have HR := hid hr
  rw [← hr]
  obtain ⟨m, hml⟩ : ∃ m, m = l.length := ⟨_, rfl⟩
  have HM := hid hml
  rw [← hml] at HV p1 ⊢
  have hm2 : m ≤ 9223372036854775807 := by omega
  clear hv hr hml hll
  go_enter Try.func28, Try.ntmps28
  go_wp2
  go_loopw [5, 6, 7, 8] (fun o i fd kk wr => ∃ (k : Nat) (out : List Int) (ad : Option Addr) (cp : Nat), k ≤ m ∧ o = .slice ad out.length cp ∧ i = .int .i64 k ∧ Hid (out.length ≤ most ∧ difs most out (l.drop k) = r) ∧ Hid (Own wr 2 1 (.slice ad out.length cp) out.length (ic out)) ∧ Hid (Fresh w wr (.slice ad out.length cp))) (fun _ i _ _ _ => (m - intOf i).toNat)
  case atStart => exact ⟨0, [], none, 0, by omega, rfl, rfl, hid ⟨by simp, by rw [List.drop_zero]; exact HR.out.symm⟩, hid (World.ownsRow_nil _ _ _ _), hid (Step.fresh (World.grownBy.refl _ _) (fun k hk => by simp [Value.ownBlock] at hk))⟩
  case round =>
    obtain ⟨k, out, ad, cp, hk, rfl, rfl, HP, HO, HF⟩ := hrel
    obtain ⟨n0, hn0⟩ : ∃ n, n = out.length := ⟨_, rfl⟩
    have HN := hid hn0
    rw [← hn0] at HO HF ⊢
    have hn1 : n0 ≤ most := by rw [hn0]; exact HP.out.1
    clear hn0
    by_cases hlt : k < m
    · by_cases hmo : n0 < most
      · have t1 : decide ((k : Int) < (m : Int)) = true := by simp; omega
        have t2 : decide ((n0 : Int) < (most : Int)) = true := by simp; omega
        have hkl : k < l.length := by rw [← HM.out]; exact hlt
        obtain ⟨x, hx⟩ : ∃ x, x = l[k] := ⟨_, rfl⟩
        obtain ⟨b, off, rfl, hc⟩ := irange HV.out hkl
        rw [← hx] at hc
        have HC := hid hc
        have HD := hid (show l.drop k = x :: l.drop (k + 1) by rw [hx]; exact List.drop_eq_getElem_cons hkl)
        obtain ⟨A, hA⟩ : ∃ A, A = adr x := ⟨_, rfl⟩
        have HA := hid (fun W => adr_walk x W)
        rw [← hA] at HA
        have HAq := hid hA
        clear hx hkl hc hA
        obtain ⟨wo, rfl⟩ : ∃ wo : World, wo = wr := ⟨_, rfl⟩
        have HWC := hid (fun (W : World) (g : wo.grownBy W none) => (grown_trans HF.out.none g).cell HC.out (by simp))
        have hkb : k < 9223372036854775807 := by omega
        have i0 : (0 : Int) ≤ (k : Int) := by omega
        have i1 : (k : Int) < (m : Int) := by omega
        go_wp2
        go_loopw [7, 8] (fun fd kv wq => ∃ j : Nat, j ≤ n0 ∧ kv = .int .i64 j ∧ fd = .bool (decide (A ∈ out.take j)) ∧ Hid (wo.grownBy wq none)) (fun _ kv _ => (n0 - intOf kv).toNat)
        case atStart => exact ⟨0, by omega, rfl, by simp, hid (World.grownBy.refl _ _)⟩
        case round =>
          obtain ⟨j, hj, rfl, rfl, HG⟩ := hrel
          have cL := HWC.out wr HG.out
          have yL := block_lt_of_cell cL
          by_cases hjn : j < n0
          · have hjo : j < out.length := by rw [← HN.out]; exact hjn
            have t3 : decide (j < n0) = true := by simp; omega
            by_cases hin : A ∈ out.take j
            · have hb : decide (A ∈ out.take j) = true := decide_eq_true hin
              have hb2 : decide (A ∈ out.take (j + 1)) = true := decide_eq_true ((mem_take_succ hjo A).2 (.inl hin))
              rw [hb]
              have HB2 := hid hb2
              clear hb hb2 hin
              go_wp2
              go_quiet ((exact Calls.quiet_of_same (HA.out _)))
              go_wp2
              go_roundw
              case rel => exact ⟨j + 1, by omega, by go_num, by rw [HB2.out], hid (grown_trans HG.out (grown_drewN _ _))⟩
              case measure => simp [intOf] <;> omega
            · have hb : decide (A ∈ out.take j) = false := decide_eq_false hin
              rw [hb]
              have hso := Sl.of_own (HO.out.kn HG.out)
              rw [show n0 = n0 from rfl] at hso
              obtain ⟨b2, off2, rfl, hc2⟩ := irange hso hjo
              obtain ⟨z, hz⟩ : ∃ z, z = out[j] := ⟨_, rfl⟩
              rw [← hz] at hc2
              have y2 := block_lt_of_cell hc2
              have j0 : (0 : Int) ≤ (j : Int) := by omega
              have j1 : (j : Int) < (n0 : Int) := by omega
              have HQ := hid (show decide (A ∈ out.take (j + 1)) = decide (z = A) from by
                rw [Bool.eq_iff_iff, decide_eq_true_iff, decide_eq_true_iff, mem_take_succ hjo A, hz]
                exact ⟨fun h => h.elim (fun h => absurd h hin) id, .inr⟩)
              clear hb hin hz hso
              by_cases hzA : z = A
              · have t4 : (z == A) = true := by simpa using hzA
                have HQ2 := hid (show decide (A ∈ out.take (j + 1)) = true from by rw [HQ.out]; exact decide_eq_true hzA)
                clear hzA
                go_wp2
                go_quiet ((exact Calls.quiet_of_same (HA.out _)))
                go_wp2
                go_roundw
                case rel => exact ⟨j + 1, by omega, by go_num, by rw [HQ2.out], hid (grown_trans HG.out (grown_drewN _ _))⟩
                case measure => simp [intOf] <;> omega
              · have t4 : (z == A) = false := by simpa using hzA
                have HQ2 := hid (show decide (A ∈ out.take (j + 1)) = false from by rw [HQ.out]; exact decide_eq_false hzA)
                clear hzA
                go_wp2
                go_quiet ((exact Calls.quiet_of_same (HA.out _)))
                go_wp2
                go_roundw
                case rel => exact ⟨j + 1, by omega, by go_num, by rw [HQ2.out], hid (grown_trans HG.out (grown_drewN _ _))⟩
                case measure => simp [intOf] <;> omega
          · obtain rfl : j = n0 := by omega
            have hta : out.take j = out := List.take_of_length_le (by rw [← HN.out]; exact Nat.le_refl _)
            rw [hta]
            clear hta
            by_cases hin : A ∈ out
            · have hb : decide (A ∈ out) = true := decide_eq_true hin
              have HNX := hid (show difs most out (l.drop (k + 1)) = r from by
                have h := HP.out.2
                rw [HD.out, difs, if_pos (by rw [← HN.out]; exact hmo), if_pos (by rw [← HAq.out]; exact hin)] at h
                exact h)
              rw [hb]
              clear hb hin
              go_wp2
              go_roundw
              case rel => exact ⟨k + 1, out, ad, cp, by omega, by rw [HN.out], by go_num, hid ⟨HP.out.1, HNX.out⟩, hid (by rw [← HN.out]; exact HO.out.kn HG.out), hid (by rw [← HN.out]; exact HF.out.then_ HG.out)⟩
              case measure => simp [intOf] <;> omega
            · have hb : decide (A ∈ out) = false := decide_eq_false hin
              have HNX := hid (show difs most (out ++ [A]) (l.drop (k + 1)) = r from by
                have h := HP.out.2
                rw [HD.out, difs, if_pos (by rw [← HN.out]; exact hmo), if_neg (by rw [← HAq.out]; exact hin), ← HAq.out] at h
                exact h)
              rw [hb]
              have OW := hid (HO.out.kn HG.out)
              clear hb hin
              go_wp2_with fail
              refine (HA.out _).mono ?_
              rintro e4 w4 ⟨rfl, rfl⟩
              go_wp2_with (first
                | (refine wpList_pushH intsT rfl (.tmp 42) (.tmp 48) rfl (.slice ad j cp) j (ic out) rfl OW.out [.int .i64 A] 1 _ rfl rfl rfl rfl (by omega) ?_; intro v3 w3 o3 s3; obtain ⟨ad3, cp3, rfl, _⟩ := (Sl.of_own o3).shape; have O3 := hid o3; have S3 := hid s3; clear o3 s3)
                | fail)
              go_roundw
              case rel => exact ⟨k + 1, out ++ [A], ad3, cp3, by omega, by rw [List.length_append, ← HN.out]; rfl, by go_num, hid ⟨by rw [List.length_append, ← HN.out]; exact hmo, HNX.out⟩, hid (by rw [ic_snoc, List.length_append, ← HN.out]; exact O3.out), hid (by rw [List.length_append, ← HN.out]; exact Fresh.step (HF.out.then_ HG.out) S3.out)⟩
              case measure => simp [intOf] <;> omega
      · have t1 : decide ((k : Int) < (m : Int)) = true := by simp; omega
        have t2 : decide ((n0 : Int) < (most : Int)) = false := by simp; omega
        have HE := hid (show out = r from by rw [← HP.out.2]; exact (difs_full most _ (by rw [← HN.out]; omega)).symm)
        go_wp2
        go_ret
        exact ⟨ad, cp, by rw [← HE.out, ← HN.out]; rfl, by rw [← HE.out, ← HN.out]; exact HO.out, by rw [← HE.out, ← HN.out]; exact HF.out⟩
    · obtain rfl : k = m := by omega
      have HE := hid (show out = r from by
        have h := HP.out.2
        rw [List.drop_of_length_le (by rw [← HM.out]; exact Nat.le_refl _)] at h
        exact h)
      go_wp2
      go_ret
      exact ⟨ad, cp, by rw [← HE.out, ← HN.out]; rfl, by rw [← HE.out, ← HN.out]; exact HO.out, by rw [← HE.out, ← HN.out]; exact HF.out⟩
end Go.Proofs.Yteakoleceoclkaa
