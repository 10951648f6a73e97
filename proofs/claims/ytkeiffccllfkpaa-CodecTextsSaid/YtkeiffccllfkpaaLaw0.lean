/- join and awake of the laws. -/
import Derived.Test.YtkeiffccllfkpaaRd64
import Derived.Test.YtkeiffccllfkpaaExtend
import Derived.Test.YtkeiffccllfkpaaReadInt2
import Derived.Test.YtkeiffccllfkpaaOps3
namespace Go.Proofs.Ytkeiffccllfkpaa
open Go.RowKit

theorem grown_newR {a b c : World} {R : Nat} (h : a.grownBy b none) (k : b.grownBy c (some R)) (hR : a.heap.size ≤ R) : a.grownBy c none :=
  ⟨k.os.trans h.os, k.tape.trans h.tape, k.output.trans h.output, Nat.le_trans h.size k.size, fun i hi _ =>
    (k.block i (Nat.lt_of_lt_of_le hi h.size) (by simp; omega)).trans (h.block i hi (by simp))⟩
theorem Fresh.lo {w w' : World} {v : Value} (h : Fresh w w' v) : ∀ k, v.ownBlock = some k → w.heap.size ≤ k := fun k hk => by
  rcases h.2 k hk with h | h
  · simp [Value.ownBlock] at h
  · exact h
theorem lit_sl (w : World) (l : List Nat) (t : TypeId) (hl : l.length ≤ 1099511627776) : Sl (w.alloc (.cells (bv l).toArray t)) 1 (.slice (some ⟨w.heap.size, 0, none⟩) l.length l.length) l.length (bv l) :=
  ⟨by simp [bv], _, _, rfl, Nat.le_refl _, by unfold maxLen; omega, fun h => (by cases h), fun a ha => by
    obtain rfl := Option.some.inj ha
    refine ⟨rfl, fun j u hu => ?_⟩
    rw [Nat.zero_add, World.cell?_alloc_at _ _ _ _ rfl]
    simpa using hu⟩
theorem lit_lo (w : World) (n c : Nat) (o : Obj) : Lo (.slice (some ⟨w.heap.size, 0, none⟩) n c) (w.alloc o).heap.size := fun k hk => by
  simp [Value.ownBlock] at hk
  subst hk; simp
theorem ReadPost.ok {α : Type} {p : Parser α} {xs r : List Nat} {zero : Value} {rep : Nat → World → Value → α → Prop} {w w' : World} {en : Ending} {x : α} (h : ReadPost p xs zero rep w en w') (hp : p xs = .ok (x, r)) :
    w.grownBy w' none ∧ ∃ v rv, en = .returned (.tuple #[v, rv, .int .i64 0]) ∧ rep w.heap.size w' v x ∧ Sl w' 1 rv r.length (bv r) ∧ ∀ k, rv.ownBlock = some k → w.heap.size ≤ k := by
  unfold ReadPost at h
  rw [hp] at h
  exact h
theorem ReadPost.err {α : Type} {p : Parser α} {xs : List Nat} {zero : Value} {rep : Nat → World → Value → α → Prop} {w w' : World} {en : Ending} {n : Nat} (h : ReadPost p xs zero rep w en w') (hp : p xs = .error n) :
    w.grownBy w' none ∧ en = .returned (.tuple #[zero, nilS, .int .i64 n]) := by
  unfold ReadPost at h
  rw [hp] at h
  exact ⟨h.1, h.2.1⟩

set_option maxRecDepth 100000 in
theorem join_walk (u v : Value) (xs ys : List Nat) (w : World) (hu : Sl w 1 u xs.length (bv xs)) (hv : Sl w 1 v ys.length (bv ys)) (hl : xs.length + ys.length ≤ 1099511627776) :
    Calls Try.prog 21 #[u, v] w fun e w' => ∃ v', e = .returned v' ∧ Own w' 5 1 v' (xs ++ ys).length (bv (xs ++ ys)) ∧ Fresh w w' v' := by
  have hown : Own (w.alloc (.cells #[] 5)) 5 1 (.slice (some ⟨w.heap.size, 0, none⟩) 0 0) 0 [] := World.ownsRow_lit w #[] 0 (Nat.zero_le _) (Nat.zero_le _) rfl
  have hu' := hu.kept (World.grownBy_alloc w (.cells #[] 5) none) (by cases u.ownBlock <;> simp)
  have hv' := hv.kept (World.grownBy_alloc w (.cells #[] 5) none) (by cases v.ownBlock <;> simp)
  have hg0 : Fresh w (w.alloc (.cells #[] 5)) (.slice (some ⟨w.heap.size, 0, none⟩) 0 0) := Fresh.lit _ _ _ _
  go_enter Try.func21, Try.ntmps21
  go_wp2_with (first
    | (at_builtin; refine wpList_app bytesT rfl (.tmp 5) (.tmp 6) rfl _ _ _ rfl hown _ _ _ rfl hu' (bv_cells _) (by omega) ?_; intro v1 w1 hown1 hg1; simp only [Nat.zero_add, List.nil_append] at hown1; have hg2 := hg0.trans hg1; have hv1 := hv.kept hg2.1 (by cases v.ownBlock <;> simp [Value.ownBlock]); clear hv' hu' hown hg1 hg0)
    | (at_builtin; refine wpList_app bytesT rfl (.tmp 7) (.tmp 8) rfl _ _ _ rfl hown1 _ _ _ rfl hv1 (bv_cells _) (by omega) ?_; intro v2 w2 hown2 hg3))
  go_ret
  exact ⟨_, rfl, by rw [List.length_append, bv_append]; exact hown2, hg2.trans hg3⟩

theorem bv3 (w : World) (t : TypeId) : Sl (w.alloc (.cells #[.int .u8 128, .int .u8 0] t)) 1 (.slice (some ⟨w.heap.size, 0, none⟩) 2 2) 2 (bv [128, 0]) := lit_sl w [128, 0] t (by decide)

set_option maxRecDepth 100000 in
theorem awake_walk (w : World) : Calls Try.prog 18 #[] w fun e w' => e = .returned (.bool true) ∧ w.grownBy w' none := by
  have p1 : pInt [128, 0] = .error 1 := by rfl
  have p2 : pInt [128] = .error 100 := by rfl
  have p3 : pInt [128, 1, 7] = .ok (64, [7]) := by rfl
  have P1 := hid p1
  have P2 := hid p2
  have P3 := hid p3
  clear p1 p2 p3
  go_enter Try.func18, Try.ntmps18
  go_wp2_with fail
  refine (readInt_walk _ [128, 0] _ (lit_sl w [128, 0] 5 (by decide)) (by decide) (by decide) (lit_lo _ _ _ _)).mono ?_
  intro e w1 h1
  obtain ⟨g1, rfl⟩ := h1.err P1.out
  have G1 := grown_alloc g1
  clear h1 g1
  go_wp2_with fail
  refine (readInt_walk _ [128] _ (lit_sl w1 [128] 5 (by decide)) (by decide) (by decide) (lit_lo _ _ _ _)).mono ?_
  intro e w2 h2
  obtain ⟨g2, rfl⟩ := h2.err P2.out
  have G2 := grown_trans G1 (grown_alloc g2)
  clear h2 g2 G1
  go_wp2_with fail
  refine (readInt_walk _ [128, 1, 7] _ (lit_sl w2 [128, 1, 7] 5 (by decide)) (by decide) (by decide) (lit_lo _ _ _ _)).mono ?_
  intro e w3 h3
  obtain ⟨g3, v3, rv3, rfl, ⟨rfl, _⟩, hs3, _⟩ := h3.ok P3.out
  have G3 := grown_trans G2 (grown_alloc g3)
  obtain ⟨ao, cap, rfl, _, _⟩ := hs3.shape
  clear h3 g3 G2 hs3
  go_wp2_with fail
  refine (appendInt_walk nilS (-1) [] _ (Sl.nil _ _) (fun k hk => by simp [Value.ownBlock] at hk) (by decide) (by decide) (by decide)).mono ?_
  rintro e w4 ⟨v4, rfl, hown4, hg4⟩
  have hc := run_conv (P := Try.prog) 22 9 5 Try.underlying22 Try.underlying5 Try.underlying9 (Sl.of_own hown4)
  have e1 : bs ([] ++ enc (-1)) = ⟨#[1]⟩ := by
    have : enc (-1) = [1] := by unfold enc zig; rw [leb_small (by decide)]; rfl
    rw [this]; rfl
  rw [e1] at hc
  have G4 := grown_trans G3 hg4.1
  clear hown4 hg4 e1 G3
  go_wp2
  go_ret
  exact ⟨rfl, G4⟩
end Go.Proofs.Ytkeiffccllfkpaa
