/- SX for key trees: facts on slots that hold trees, gaps, digests. -/
import Derived.Test.YteakoleceoclkaaSX
import Derived.Test.YteakoleceoclkaaMK6
namespace Go.Proofs.Yteakoleceoclkaa
open Go.RowKit
set_option linter.unusedSimpArgs false
set_option linter.unusedVariables false

/-- a list of intervals -/
def Sp.gp (g : List (Int × Int)) : Sp := ⟨fun w v => Sl w 2 v g.length (gcells g), fun _ _ _ hg h => Sl.kn h hg⟩
theorem gaps_bound {l : List Nd} : ∀ p ∈ gaps l, (0 ≤ p.1 ∧ p.1 ≤ 17179869184) ∧ (0 ≤ p.2 ∧ p.2 ≤ 17179869184) := by
  by_cases hv : vld l = true
  · intro p hp
    have hn := (gaps_norm hv).1 p hp
    have h1 := (gaps_mem hv p.1).1 ⟨p, hp, Int.le_refl _, hn⟩
    have h2 := (gaps_mem hv (p.2 - 1)).1 ⟨p, hp, by omega, by omega⟩
    omega
  · intro p hp
    unfold gaps at hp
    rw [if_neg hv] at hp
    cases hp
theorem gaps_len (l : List Nd) : (gaps l).length ≤ 1099511627776 := by
  unfold gaps
  split
  · rename_i hv
    have h1 := (vld_run hv).1
    have h2 := gfold_len l
    unfold gend
    split
    · rw [List.length_append, List.length_singleton]; omega
    · omega
  · simp
theorem gaps_on {w0 : World} {s : Value} {l : List Nd} (h : RdT w0 s l) : ∀ W, w0.grownBy W none → Calls Try.prog 32 #[.agg #[s]] W fun e W' => ∃ v, e = .returned v ∧ W.grownBy W' none ∧ (Sp.gp (gaps l)).on W' v := fun W g =>
  (gaps_call rfl (h.kn g)).mono fun e W' ⟨ao, cap, h1, h2, h3⟩ => ⟨_, h1, h3, Sl.of_own h2⟩
theorem rgaps_on {w0 : World} {s : Value} {l : List Nd} (h : RdT w0 s l) : ∀ W, w0.grownBy W none → Calls Try.prog 34 #[.agg #[s]] W fun e W' => ∃ v, e = .returned v ∧ W.grownBy W' none ∧ (Sp.gp (gaps l)).on W' v := fun W g => by
  obtain ⟨L, rfl, hL⟩ := (h.kn g).k
  exact (rgaps_walk L s W hL).mono fun e W' ⟨v, h1, h2, h3⟩ => ⟨v, h1, h3.none, Sl.of_own h2⟩
theorem is_on {P : Program} {f : Nat} {args : Array Value} {w0 : World} {v : Value} (h : ∀ W, w0.grownBy W none → Calls P f args W fun e W' => e = .returned v ∧ W.grownBy W' none) : ∀ W, w0.grownBy W none → Calls P f args W fun e W' => ∃ v', e = .returned v' ∧ W.grownBy W' none ∧ (Sp.is v).on W' v' := fun W g =>
  (h W g).mono fun e W' ⟨h1, h2⟩ => ⟨v, h1, h2, rfl⟩
/-- a block that a tree does not read is written -/
theorem RdT.off {w w' : World} {s : Value} {l : List Nd} {b : Nat} (h : RdT w s l) (g : w.grownBy w' (some b)) (hb : ∀ k, fpT s k → k ≠ b) : RdT w' s l :=
  ⟨h.1.keptT g fun k hk e => hb k hk (Option.some.inj e).symm, h.2.1, fun k hk => Nat.lt_of_lt_of_le (h.2.2.1 k hk) g.size, h.2.2.2⟩
theorem lenDD {x y : List Nat} (hx : Dg x) (hy : Dg y) : (bv x).length = (bv y).length := by rw [bv_length, bv_length, hx.1, hy.1]
theorem lenD {x : List Nat} (hx : Dg x) : (bv zero32).length = (bv x).length := by rw [bv_length, bv_length, hx.1]; rfl
end Go.Proofs.Yteakoleceoclkaa
