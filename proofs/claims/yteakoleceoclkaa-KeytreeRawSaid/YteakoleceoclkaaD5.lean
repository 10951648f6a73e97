/- Digests: plain. -/
import Derived.Test.YteakoleceoclkaaD3
import Derived.Test.YteakoleceoclkaaD4
namespace Go.Proofs.Yteakoleceoclkaa
open Go.RowKit
set_option linter.unusedSimpArgs false
set_option linter.unusedVariables false

def xr (s : St) (l : List Nat) : St := { s with a := s.a ^^^ wd l }
def zs (n : Nat) : List Nat := List.replicate n 0
/-- the state behind all bytes -/
def ab (s : St) (l : List Nat) : St := if 8 ≤ l.length then ab (perm (xr s (l.take 8))) (l.drop 8) else perm (xr s (l ++ 1 :: zs (7 - l.length)))
termination_by l.length
decreasing_by simp; omega
def start (dom : BitVec 64) : St := perm ⟨dom, 1, 2, 3, 4⟩
def absorb (dom : BitVec 64) (l : List Nat) : St := ab (start dom) l
/-- the state behind words -/
def chunks (s : St) (l : List Nat) : Nat → St
  | 0 => s
  | n + 1 => chunks (perm (xr s (l.take 8))) (l.drop 8) n
theorem ab_big {s : St} {l : List Nat} (h : 8 ≤ l.length) : ab s l = ab (perm (xr s (l.take 8))) (l.drop 8) := by rw [ab, if_pos h]
theorem ab_small {s : St} {l : List Nat} (h : ¬ 8 ≤ l.length) : ab s l = perm (xr s (l ++ 1 :: zs (7 - l.length))) := by rw [ab, if_neg h]
theorem chunks_succ (s : St) (l : List Nat) (n : Nat) : chunks s l (n + 1) = perm (xr (chunks s l n) ((l.drop (8 * n)).take 8)) := by
  induction n generalizing s l with
  | zero => rfl
  | succ n ih =>
    have := ih (perm (xr s (l.take 8))) (l.drop 8)
    rw [chunks, this, List.drop_drop, show 8 + 8 * n = 8 * (n + 1) by omega]
    rfl
/-- padding with zeros to whole words -/
def pad (l : List Nat) : List Nat := l ++ 1 :: zs (7 - l.length % 8)
theorem pad_len (l : List Nat) : (pad l).length = 8 * (l.length / 8 + 1) := by unfold pad zs; simp; omega
theorem chunks_pad (s : St) (l : List Nat) : chunks s (pad l) (l.length / 8 + 1) = ab s l := by
  induction l using (measure (fun l : List Nat => l.length)).wf.induction generalizing s with
  | _ l ih =>
    by_cases h : 8 ≤ l.length
    · rw [ab_big h, ← ih (l.drop 8) (by show (l.drop 8).length < l.length; simp; omega)]
      have e1 : (pad l).take 8 = l.take 8 := by unfold pad; rw [List.take_append_of_le_length h]
      have e2 : (pad l).drop 8 = pad (l.drop 8) := by
        unfold pad
        rw [List.drop_append_of_le_length h, List.length_drop]
        congr 4
        omega
      rw [chunks, e1, e2, List.length_drop, show l.length / 8 = (l.length - 8) / 8 + 1 by omega]
    · rw [ab_small h, show l.length / 8 = 0 by omega, chunks, chunks]
      have : (pad l).take 8 = l ++ 1 :: zs (7 - l.length) := by
        unfold pad
        rw [show l.length % 8 = l.length by omega, List.take_of_length_le (by unfold zs; simp; omega)]
      rw [this]
theorem start_is (dom : BitVec 64) : start dom = perm ⟨dom, 1, 2, 3, 4⟩ := rfl
/-- the byte r of a word -/
def wb (x : BitVec 64) (r : Nat) : Nat := (x >>> (8 * r)).toNat % 256
/-- the permutation n times -/
def it : Nat → St → St
  | 0, s => s
  | n + 1, s => it n (perm s)
theorem it_succ (n : Nat) (s : St) : it (n + 1) s = perm (it n s) := by
  induction n generalizing s with
  | zero => rfl
  | succ n ih => rw [it, ih]; rfl
def sq (s : St) (n : Nat) : List Nat := (List.range n).map fun i => wb (it (i / 8) s).a (i % 8)
theorem sq_len (s : St) (n : Nat) : (sq s n).length = n := by unfold sq; simp
theorem sq_succ (s : St) (n : Nat) : sq s (n + 1) = sq s n ++ [wb (it (n / 8) s).a (n % 8)] := by unfold sq; rw [List.range_succ, List.map_append]; rfl
theorem sq_lt (s : St) (n : Nat) : ∀ x ∈ sq s n, x < 256 := by
  intro x hx
  unfold sq at hx
  simp only [List.mem_map] at hx
  obtain ⟨i, _, rfl⟩ := hx
  unfold wb
  omega
def dig (dom : BitVec 64) (l : List Nat) : List Nat := sq (absorb dom l) 32
theorem dig_len (dom : BitVec 64) (l : List Nat) : (dig dom l).length = 32 := sq_len _ _
theorem dig_lt (dom : BitVec 64) (l : List Nat) : ∀ x ∈ dig dom l, x < 256 := sq_lt _ _
/-- a byte of a word, as the code computes it -/
theorem wb_eq (x : BitVec 64) (r : Nat) : IntKind.u8.wrap (wi x / 2 ^ (8 * r)) = (wb x r : Nat) := by
  rw [shr_wi]
  unfold wi wb
  rw [IntKind.wrap_u8]
  omega
end Go.Proofs.Yteakoleceoclkaa
