/- The tape: what Next gives. -/
import Derived.Test.YtbddollbjajcnaaGreatRows
import Derived.Test.YtbddollbjajcnaaGreatX33
import Derived.WalkKit
import Derived.WalkLawsBesides
import Derived.ProofKit
import Derived.Handy
import Derived.WalkSpells
import Derived.Laws.CopyOwn
import Derived.Laws.BitsAllLaws
import Derived.Deep.QuietTactic
import Derived.Deep.RegionHeld3
namespace Go.Proofs.YtbddollbjajcnaaGreat
open Go Go.RowKit
set_option linter.unusedVariables false
set_option linter.unusedSimpArgs false
theorem hid {p : Prop} (h : p) : Hid p := h
/-- only the tape's place is written -/
def Out (bt : Nat) (w : World) (r : Int) (at' : Nat) (e : Ending) (w' : World) : Prop :=
  e = .returned (.int .i64 r) ∧ w.grownBy w' (some bt) ∧ w'.cell? ⟨bt, 1, none⟩ = some (.int .i64 (at' : Int)) ∧ (∀ a : Addr, a ≠ ⟨bt, 1, none⟩ → w'.cell? a = w.cell? a) ∧ ∀ a : Addr, w'.frozen? a = w.frozen? a
theorem out_same (w : World) (bt at0 : Nat) (h1 : w.cell? ⟨bt, 1, none⟩ = some (.int .i64 (at0 : Int))) (r : Int) (w' : World) (hw : w'.heap = w.heap) (h2 : w'.os = w.os) (h3 : w'.tape = w.tape) (h4 : w'.output = w.output) : Out bt w r at0 (.returned (.int .i64 r)) w' := by
  have hc : ∀ a : Addr, w'.cell? a = w.cell? a := fun a => by unfold World.cell?; rw [hw]
  exact ⟨rfl, ⟨h2, h3, h4, by rw [hw]; exact Nat.le_refl _, fun _ _ _ => by rw [hw]⟩, (hc _).trans h1, fun a _ => hc a, fun a => by unfold World.frozen?; rw [hw]⟩
theorem out_set (w : World) (bt at0 : Nat) (h1 : w.cell? ⟨bt, 1, none⟩ = some (.int .i64 (at0 : Int))) (r : Int) (w' : World) (hw : w'.heap = (w.setCell ⟨bt, 1, none⟩ (.int .i64 ((at0 : Int) + 1))).heap) (h2 : w'.os = w.os) (h3 : w'.tape = w.tape) (h4 : w'.output = w.output) : Out bt w r (at0 + 1) (.returned (.int .i64 r)) w' := by
  have hc : ∀ a : Addr, w'.cell? a = (w.setCell ⟨bt, 1, none⟩ (.int .i64 ((at0 : Int) + 1))).cell? a := fun a => by unfold World.cell?; rw [hw]
  have hf : ∀ a : Addr, w'.frozen? a = (w.setCell ⟨bt, 1, none⟩ (.int .i64 ((at0 : Int) + 1))).frozen? a := fun a => by unfold World.frozen?; rw [hw]
  refine ⟨rfl, ⟨h2, h3, h4, by rw [hw]; simp [World.setCell], fun k _ hk => ?_⟩, ?_, fun a ha => (hc a).trans (World.cell?_setCell_other _ _ _ _ (Ne.symm ha)), fun a => (hf a).trans (World.frozen?_setCell _ _ _ _)⟩
  · rw [hw]
    show (w.heap.modify bt _)[k]? = _
    rw [Array.getElem?_modify, if_neg (fun e => hk (by rw [e]))]
  · rw [hc]
    exact World.cell?_setCell_same w ⟨bt, 1, none⟩ (.int .i64 ((at0 : Int) + 1)) h1
set_option maxRecDepth 100000 in
set_option maxHeartbeats 1000000 in
theorem next0 (w : World) (bt B cap at0 : Nat) (h0 : w.cell? ⟨bt, 0, none⟩ = some (.slice (some ⟨B, 0, none⟩) 0 cap)) (h1 : w.cell? ⟨bt, 1, none⟩ = some (.int .i64 (at0 : Int))) :
    Calls Tryz.prog 9 #[.pointer (some ⟨bt, 0, none⟩), .int .i64 4] w (Out bt w 0 at0) := by
  go_enter Tryz.func9, Tryz.ntmps9
  go_wp2
  go_region
  go_wp2
  go_ret
  exact out_same w bt at0 h1 _ _ rfl rfl rfl rfl
set_option maxRecDepth 100000 in
set_option maxHeartbeats 1000000 in
theorem next1 (w : World) (bt B cap at0 n : Nat) (hn : 0 < n) (hn2 : n < 1125899906842624) (hge : 4 * n ≤ at0) (h0 : w.cell? ⟨bt, 0, none⟩ = some (.slice (some ⟨B, 0, none⟩) n cap)) (h1 : w.cell? ⟨bt, 1, none⟩ = some (.int .i64 (at0 : Int))) :
    Calls Tryz.prog 9 #[.pointer (some ⟨bt, 0, none⟩), .int .i64 4] w (Out bt w 0 at0) := by
  have e1 : ((n : Int) == 0) = false := by simp; omega
  have e2 : wrap64 (4 * (n : Int)) = 4 * (n : Int) := by simp [wrap64]; omega
  have e3 : decide ((at0 : Int) ≥ 4 * (n : Int)) = true := by simp; omega
  have e4 : decide (4 * (n : Int) ≤ (at0 : Int)) = true := by simp; omega
  go_enter Tryz.func9, Tryz.ntmps9
  go_wp2
  go_region
  go_wp2
  go_ret
  exact out_same w bt at0 h1 _ _ rfl rfl rfl rfl
set_option maxRecDepth 100000 in
set_option maxHeartbeats 1000000 in
theorem next2 (w : World) (bt B cap at0 n : Nat) (x : Int) (hn : 0 < n) (hn2 : n < 1125899906842624) (hlt : at0 < n) (h0 : w.cell? ⟨bt, 0, none⟩ = some (.slice (some ⟨B, 0, none⟩) n cap)) (h1 : w.cell? ⟨bt, 1, none⟩ = some (.int .i64 (at0 : Int))) (hf : w.frozen? ⟨bt, 1, none⟩ = false)
    (hx : w.cell? ⟨B, at0, none⟩ = some (.int .i64 x)) :
    Calls Tryz.prog 9 #[.pointer (some ⟨bt, 0, none⟩), .int .i64 4] w (Out bt w ((wrap64 (x.tmod 4 + 4)).tmod 4) (at0 + 1)) := by
  have e1 : ((n : Int) == 0) = false := by simp; omega
  have e2 : wrap64 (4 * (n : Int)) = 4 * (n : Int) := by simp [wrap64]; omega
  have e3 : decide ((at0 : Int) ≥ 4 * (n : Int)) = false := by simp; omega
  have e4 : decide (4 * (n : Int) ≤ (at0 : Int)) = false := by simp; omega
  have e5 : Int.tmod (at0 : Int) (n : Int) = (at0 : Int) := by rw [Int.tmod_eq_emod_of_nonneg (by omega)]; exact Int.emod_eq_of_lt (by omega) (by omega)
  have e6 : Int.tdiv (at0 : Int) (n : Int) = 0 := by rw [Int.tdiv_eq_ediv_of_nonneg (by omega)]; exact Int.ediv_eq_zero_of_lt (by omega) (by omega)
  have e7 : ¬ (n : Int) = 0 := by omega
  go_enter Tryz.func9, Tryz.ntmps9
  go_wp2
  go_region
  go_wp2
  go_region
  go_wp2
  go_region
  go_wp2
  go_ret
  exact out_set w bt at0 h1 _ _ rfl rfl rfl rfl
set_option maxRecDepth 100000 in
set_option maxHeartbeats 1000000 in
theorem next3 (w : World) (bt B cap at0 n s i : Nat) (x : Int) (hn : 0 < n) (hn2 : n < 1125899906842624) (hs0 : 0 < s) (hs : s ≤ 3) (hi : i < n) (hat : at0 = s * n + i) (h0 : w.cell? ⟨bt, 0, none⟩ = some (.slice (some ⟨B, 0, none⟩) n cap)) (h1 : w.cell? ⟨bt, 1, none⟩ = some (.int .i64 (at0 : Int))) (hf : w.frozen? ⟨bt, 1, none⟩ = false)
    (hx : w.cell? ⟨B, i, none⟩ = some (.int .i64 x)) :
    Calls Tryz.prog 9 #[.pointer (some ⟨bt, 0, none⟩), .int .i64 4] w (Out bt w ((wrap64 ((bits BinOp.xor IntKind.i64 (x / 2 ^ s) (s : Int)).tmod 4 + 4)).tmod 4) (at0 + 1)) := by
  have hlt : at0 < 4 * n := by subst hat; rcases (by omega : s = 1 ∨ s = 2 ∨ s = 3) with rfl | rfl | rfl <;> omega
  have e1 : ((n : Int) == 0) = false := by simp; omega
  have e2 : wrap64 (4 * (n : Int)) = 4 * (n : Int) := by simp [wrap64]; omega
  have e3 : decide ((at0 : Int) ≥ 4 * (n : Int)) = false := by simp; omega
  have e4 : decide (4 * (n : Int) ≤ (at0 : Int)) = false := by simp; omega
  have e5 : Int.tmod (at0 : Int) (n : Int) = (i : Int) := by
    rw [Int.tmod_eq_emod_of_nonneg (by omega)]
    have : at0 % n = i := by rw [hat, Nat.mul_comm, Nat.mul_add_mod]; exact Nat.mod_eq_of_lt hi
    exact_mod_cast this
  have e6 : Int.tdiv (at0 : Int) (n : Int) = (s : Int) := by
    rw [Int.tdiv_eq_ediv_of_nonneg (by omega)]
    have : at0 / n = s := by rw [hat, Nat.mul_comm, Nat.mul_add_div hn, Nat.div_eq_of_lt hi, Nat.add_zero]
    exact_mod_cast this
  have e7 : ¬ (n : Int) = 0 := by omega
  have e8 : decide ((s : Int) > 0) = true := by simp; omega
  have e9 : decide (0 < s) = true := by simp; omega
  have e10 : 0 ≤ (s : Int) := by omega
  have e11 : (s : Int) < 64 := by omega
  have e12 : ((s : Int) % 18446744073709551616) = s := by omega
  clear hat
  go_enter Tryz.func9, Tryz.ntmps9
  go_wp2
  go_region
  go_wp2
  go_region
  go_wp2
  go_region
  go_wp2
  go_ret
  exact out_set w bt at0 h1 _ _ rfl rfl rfl rfl
end Go.Proofs.YtbddollbjajcnaaGreat
