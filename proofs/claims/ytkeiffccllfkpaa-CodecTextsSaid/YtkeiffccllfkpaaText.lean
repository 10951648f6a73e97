/- Text, AppendText, ReadText. -/
import Derived.Test.YtkeiffccllfkpaaOps4
import Derived.Test.YtkeiffccllfkpaaRdTStr
namespace Go.Proofs.Ytkeiffccllfkpaa
open Go.RowKit

set_option maxRecDepth 100000 in
theorem refText_walk (s : ByteArray) (w : World) (hl : s.size ≤ 1099511000000) :
    Calls Try.prog 26 #[.string s] w fun e w' => ∃ v, e = .returned v ∧ Own w' 5 1 v (encT s).length (bv (encT s)) ∧ Fresh w w' v := by
  go_enter Try.func26, Try.ntmps26
  go_wp2_with fail
  refine (refInt_walk (s.size : Int) w (by omega) (by omega)).mono ?_
  rintro e w1 ⟨v1, rfl, hown1, hst1⟩
  have hel := enc_len (n := s.size) (by omega) (by omega)
  go_wp2_with (at_builtin; go_must (refine wpList_appstr bytesT Try.underlying9 rfl _ _ rfl _ _ _ rfl hown1 s rfl (by omega) ?_; intro v2 w2 hown2 hst2))
  go_ret
  refine ⟨v2, rfl, ?_, hst1.trans hst2⟩
  unfold encT
  rw [strCells_by, ← bv_append] at hown2
  have e : (enc s.size).length + s.size = (enc s.size ++ by_ s).length := by simp [by_len]
  rw [e] at hown2
  exact hown2

set_option maxRecDepth 100000 in
theorem recText_walk (w : World) : CallsD Try.prog 93 #[] .returning w fun e u' w' => e = .returned (.tuple #[]) ∧ u' = .returning ∧ w' = w := by
  refine callsD_of_wpS Try.func93 rfl fun c₀ cs hu => ?_
  apply wpS_region
  simp [wpOpsS, go_sem, recoverD, hu, Try.ntmps93]
  cases c₀
  simp_all [bodyPostS, results, Try.results93]
theorem encT_pos (s : ByteArray) : 0 < (encT s).length := by
  unfold encT
  have := leb_pos (zig s.size)
  rw [List.length_append]
  unfold enc
  omega
set_option maxRecDepth 100000 in
theorem appendText_walk (v : Value) (s : ByteArray) (xs : List Nat) (w : World) (hv : Sl w 1 v xs.length (bv xs)) (hvb : Lo v w.heap.size) (hl : xs.length + 20 + s.size ≤ 1099511627776) :
    Calls Try.prog 24 #[v, .string s] w fun e w' => ∃ v', e = .returned v' ∧ Own w' 5 1 v' (xs ++ encT s).length (bv (xs ++ encT s)) ∧ Fresh w w' v' := by
  have hel := encT_len s (by omega)
  have hep := encT_pos s
  go_enter_defers Try.func24, Try.ntmps24
  go_wp2_with fail
  refine (text_app nilS s [] _ (Own.nil _ _ _) (by simp; omega)).mono ?_
  rintro e w1 ⟨v1, rfl, hown1, hg1⟩
  rw [List.nil_append] at hown1
  have hv1 := hv.below (none_below hg1.1) hvb
  go_wp2_with fail
  refine (extend_walk v v1 xs (encT s) _ hv1 (Sl.of_own hown1) hep (by omega)).mono ?_
  rintro e w2 ⟨v2, rfl, hown2, hg2⟩
  go_wp2
  refine leaves_cons (f := 93) (args := #[]) (by simp) (by simp [go_sem]) ?_
  refine (recText_walk _).mono ?_
  rintro e u' w'' ⟨rfl, rfl, rfl⟩
  exact ⟨v2, results_tmp (t := 4) rfl _ _ _, _, rfl, hown2, Step.grown hg1.1 hg2⟩

def repT (_ : Nat) (_ : World) (v : Value) (t : ByteArray) : Prop := v = .string t ∧ t.size ≤ 1099511627776
theorem repT_mono (L : Nat) (w w' : World) (v : Value) (x : ByteArray) (h : repT L w v x) (_ : w.heap.size ≤ w'.heap.size) (_ : ∀ k, L ≤ k → k < w.heap.size → w'.heap[k]? = w.heap[k]?) (L' : Nat) (_ : L' ≤ L) : repT L' w' v x := h
set_option maxRecDepth 100000 in
theorem textFn_walk (M : Nat) (most : Int) (hm : I64 most) (w : World) (R L : Nat) (s : St) (hst : RSt 201 L w R s) (hM : w.cell? ⟨M, 0, none⟩ = some (.int .i64 most)) :
    Calls Try.prog 96 #[.pointer (some ⟨R, 0, none⟩), .pointer (some ⟨M, 0, none⟩)] w (RdPost 201 L w R (pText most) s (repT w.heap.size)) := by
  go_enter Try.func96, Try.ntmps96
  go_wp2_with fail
  refine (text_walk R s most _ hst hm).mono ?_
  rintro e w1 ⟨v, x, s1, rfl, ⟨rfl, hx⟩, hg, hst1, hrel⟩
  have H := hid hrel
  clear hrel
  go_wp2
  go_ret
  exact ⟨_, x, s1, rfl, ⟨rfl, hx⟩, hg, hst1, H.out⟩
/-- the same leavings, told of an earlier world -/
theorem ReadPost.earlier {α : Type} {p : Parser α} {xs : List Nat} {zero : Value} {rep : Nat → World → Value → α → Prop} {w0 w w' : World} {en : Ending} (h : ReadPost p xs zero rep w en w') (hg : w0.grownBy w none)
    (hmono : ∀ (L : Nat) (w w' : World) (v : Value) (x : α), rep L w v x → w.heap.size ≤ w'.heap.size → (∀ k, L ≤ k → k < w.heap.size → w'.heap[k]? = w.heap[k]?) → ∀ L', L' ≤ L → rep L' w' v x) : ReadPost p xs zero rep w0 en w' := by
  unfold ReadPost at *
  obtain ⟨h1, h2⟩ := h
  refine ⟨grown_trans hg h1, ?_⟩
  cases hp : p xs with
  | error n => rw [hp] at h2; exact h2
  | ok y =>
    obtain ⟨x, r⟩ := y
    rw [hp] at h2
    obtain ⟨v, rv, q1, q2, q3, q4⟩ := h2
    exact ⟨v, rv, q1, hmono _ _ _ _ _ q2 (Nat.le_refl _) (fun _ _ _ => rfl) _ hg.size, q3, fun k hk => Nat.le_trans hg.size (q4 k hk)⟩
set_option maxRecDepth 100000 in
theorem readText_walk (v : Value) (most : Int) (xs : List Nat) (w : World) (hv : Sl w 1 v xs.length (bv xs)) (hl : xs.length ≤ 1099511627776) (hb : ∀ b ∈ xs, b < 256) (hvb : Lo v w.heap.size) (hm : I64 most) :
    Calls Try.prog 25 #[v, .int .i64 most] w (ReadPost (pText most) xs (.string ⟨#[]⟩) repT w) := by
  obtain ⟨ao, cap, rfl, hnc, hcm⟩ := hv.shape
  have HV := hid hv
  have HB := hid hb
  have HVB := hid hvb
  clear hv hb hvb
  have hmf : ∀ (fn : Fn) (first cap : Array Value) (w : World), (Instr.makeFunc fn first cap).run Try.prog w = .ok (.func fn first cap) w := fun _ _ _ _ => rfl
  go_enter Try.func25, Try.ntmps25
  go_wp2_with fail
  refine (readStr_walk (pText most) repT _ xs _ w.heap.size most ?_ ?_ hl HB.out ?_ ?_ ?_ ?_).mono ?_
  · rw [cell_of_row _ _ 0 _ _ _ (heap_at rfl)]; rfl
  · exact HV.out.kept (World.grownBy_alloc _ _ none) (by cases (Value.slice ao xs.length cap).ownBlock <;> simp)
  · exact HVB.out.mono (by simp)
  · intro w R L s hst hM
    exact textFn_walk _ most hm w R L s hst hM
  · rintro L w v x ⟨rfl, _⟩
    exact ⟨_, TY.one' Try.underlying9 rfl (by kernel_rfl) rfl, rfl⟩
  · rintro L w w' v x h _ _ L' _
    exact h
  · intro e w' h0
    have h := h0.earlier (World.grownBy_alloc _ _ _) repT_mono
    have H := hid h
    unfold ReadPost at h
    obtain ⟨hg, h⟩ := h
    clear h0
    cases hp : pText most xs with
    | error n =>
      rw [hp] at h
      obtain ⟨rfl, hn⟩ := h
      clear hp hg hn
      go_wp2
      go_ret3
      exact H.out
    | ok y =>
      obtain ⟨x, r⟩ := y
      rw [hp] at h
      obtain ⟨v, rv, rfl, h⟩ := h
      clear hp hg h
      go_wp2
      go_ret3
      exact H.out
end Go.Proofs.Ytkeiffccllfkpaa
