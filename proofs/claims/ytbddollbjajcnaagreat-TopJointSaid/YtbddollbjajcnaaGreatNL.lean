/- Four numbers below four have a pattern. (printed by nl.py) -/
import Derived.Test.YtbddollbjajcnaaGreatNE
namespace Go.Proofs.YtbddollbjajcnaaGreat
open Go
set_option linter.unusedVariables false
abbrev Pat := Nat × Nat × List Nat
def pats : List Pat := [(3, 3, []), (1, 2, []), (2, 1, []), (3, 3, [3]), (3, 3, [4]), (1, 2, [1]), (1, 2, [2]), (1, 2, [3]), (2, 1, [1]), (2, 1, [2]), (2, 1, [3]), (3, 3, [3, 3]), (3, 3, [3, 4]), (3, 3, [4, 3]), (3, 3, [4, 4]), (3, 3, [4, 1]), (3, 3, [4, 2]), (1, 2, [1, 1]), (1, 2, [1, 2]), (1, 2, [1, 3]), (1, 2, [2, 1]), (1, 2, [2, 2]), (1, 2, [2, 3]), (1, 2, [3, 1]), (1, 2, [3, 2]), (1, 2, [3, 3]), (1, 2, [3, 4]), (2, 1, [1, 1]), (2, 1, [1, 2]), (2, 1, [1, 3]), (2, 1, [2, 1]), (2, 1, [2, 2]), (2, 1, [2, 3]), (2, 1, [3, 1]), (2, 1, [3, 2]), (2, 1, [3, 3]), (2, 1, [3, 4]), (3, 3, [3, 3, 3]), (3, 3, [3, 3, 4]), (3, 3, [3, 4, 3]), (3, 3, [3, 4, 4]), (3, 3, [3, 4, 1]), (3, 3, [3, 4, 2]), (3, 3, [4, 3, 3]), (3, 3, [4, 3, 4]), (3, 3, [4, 3, 1]), (3, 3, [4, 3, 2]), (3, 3, [4, 4, 3]), (3, 3, [4, 4, 4]), (3, 3, [4, 4, 1]), (3, 3, [4, 4, 2]), (3, 3, [4, 1, 3]), (3, 3, [4, 1, 4]), (3, 3, [4, 1, 1]), (3, 3, [4, 1, 2]), (3, 3, [4, 2, 3]), (3, 3, [4, 2, 4]), (3, 3, [4, 2, 1]), (3, 3, [4, 2, 2]), (1, 2, [1, 1, 1]), (1, 2, [1, 1, 2]), (1, 2, [1, 1, 3]), (1, 2, [1, 2, 1]), (1, 2, [1, 2, 2]), (1, 2, [1, 2, 3]), (1, 2, [1, 3, 1]), (1, 2, [1, 3, 2]), (1, 2, [1, 3, 3]), (1, 2, [1, 3, 4]), (1, 2, [2, 1, 1]), (1, 2, [2, 1, 2]), (1, 2, [2, 1, 3]), (1, 2, [2, 2, 1]), (1, 2, [2, 2, 2]), (1, 2, [2, 2, 3]), (1, 2, [2, 3, 1]), (1, 2, [2, 3, 2]), (1, 2, [2, 3, 3]), (1, 2, [2, 3, 4]), (1, 2, [3, 1, 1]), (1, 2, [3, 1, 2]), (1, 2, [3, 1, 3]), (1, 2, [3, 1, 4]), (1, 2, [3, 2, 1]), (1, 2, [3, 2, 2]), (1, 2, [3, 2, 3]), (1, 2, [3, 2, 4]), (1, 2, [3, 3, 1]), (1, 2, [3, 3, 2]), (1, 2, [3, 3, 3]), (1, 2, [3, 3, 4]), (1, 2, [3, 4, 1]), (1, 2, [3, 4, 2]), (1, 2, [3, 4, 3]), (1, 2, [3, 4, 4]), (2, 1, [1, 1, 1]), (2, 1, [1, 1, 2]), (2, 1, [1, 1, 3]), (2, 1, [1, 2, 1]), (2, 1, [1, 2, 2]), (2, 1, [1, 2, 3]), (2, 1, [1, 3, 1]), (2, 1, [1, 3, 2]), (2, 1, [1, 3, 3]), (2, 1, [1, 3, 4]), (2, 1, [2, 1, 1]), (2, 1, [2, 1, 2]), (2, 1, [2, 1, 3]), (2, 1, [2, 2, 1]), (2, 1, [2, 2, 2]), (2, 1, [2, 2, 3]), (2, 1, [2, 3, 1]), (2, 1, [2, 3, 2]), (2, 1, [2, 3, 3]), (2, 1, [2, 3, 4]), (2, 1, [3, 1, 1]), (2, 1, [3, 1, 2]), (2, 1, [3, 1, 3]), (2, 1, [3, 1, 4]), (2, 1, [3, 2, 1]), (2, 1, [3, 2, 2]), (2, 1, [3, 2, 3]), (2, 1, [3, 2, 4]), (2, 1, [3, 3, 1]), (2, 1, [3, 3, 2]), (2, 1, [3, 3, 3]), (2, 1, [3, 3, 4]), (2, 1, [3, 4, 1]), (2, 1, [3, 4, 2]), (2, 1, [3, 4, 3]), (2, 1, [3, 4, 4])]
def eqL : List Nat → List Nat → Bool
  | [], [] => true
  | x :: l, y :: m => bif Nat.beq x y then eqL l m else false
  | _, _ => false
theorem eqL_ok : ∀ {l m : List Nat}, eqL l m = true → l = m
  | [], [], _ => rfl
  | [], _ :: _, h => by cases h
  | _ :: _, [], h => by cases h
  | x :: l, y :: m, h => by
    unfold eqL at h
    cases hb : Nat.beq x y with
    | true => rw [hb] at h; rw [Nat.eq_of_beq_eq_true hb, eqL_ok (l := l) (m := m) h]
    | false => rw [hb] at h; cases h
def memP (a b : Nat) (r : List Nat) : List Pat → Bool
  | [] => false
  | p :: l => bif (bif Nat.beq a p.1 then (bif Nat.beq b p.2.1 then eqL r p.2.2 else false) else false) then true else memP a b r l
theorem memP_ok {a b : Nat} {r : List Nat} : ∀ {l : List Pat}, memP a b r l = true → (a, b, r) ∈ l
  | [], h => by cases h
  | p :: l, h => by
    unfold memP at h
    cases hb : (bif Nat.beq a p.1 then (bif Nat.beq b p.2.1 then eqL r p.2.2 else false) else false) with
    | false => rw [hb] at h; exact List.mem_cons_of_mem _ (memP_ok h)
    | true =>
      cases h1 : Nat.beq a p.1 with
      | false => rw [h1] at hb; cases hb
      | true =>
        cases h2 : Nat.beq b p.2.1 with
        | false => rw [h1, h2] at hb; cases hb
        | true =>
          rw [h1, h2] at hb
          have h3 := eqL_ok (show eqL r p.2.2 = true from hb)
          obtain ⟨x, y, z⟩ := p
          simp only at h1 h2 h3
          rw [Nat.eq_of_beq_eq_true h1, Nat.eq_of_beq_eq_true h2, h3]
          exact List.mem_cons_self
/-- the numbers of the four persons -/
structure Sg where
  s1 : Nat
  s2 : Nat
  s3 : Nat
  s4 : Nat
def Sg.at (σ : Sg) : Nat → Nat
  | 1 => σ.s1
  | 2 => σ.s2
  | 3 => σ.s3
  | 4 => σ.s4
  | _ => 0
def Sg.name (σ : Sg) (x : Nat) : Nat := bif Nat.beq x σ.s1 then 1 else bif Nat.beq x σ.s2 then 2 else bif Nat.beq x σ.s3 then 3 else 4
/-- all of 1 to 4 but these -/
def others (l : List Nat) : List Nat := [1, 2, 3, 4].filter fun x => !(l.contains x)
def firstIn (m : List Nat) (d : Nat) : List Nat → Nat
  | [] => d
  | x :: l => bif m.contains x then x else firstIn m d l
/-- the numbers, where a, b and r are asked -/
def sgOf (a b : Nat) (r : List Nat) : Sg :=
  bif Nat.beq a b then
    let m := others [a]
    let x := firstIn m (m.headD 0) r
    let q := others [a, x]
    ⟨q.headD 0, (q.drop 1).headD 0, a, x⟩
  else
    let m := others [a, b]
    let x := firstIn m (m.headD 0) r
    ⟨Nat.min a b, Nat.max a b, x, (others [a, b, x]).headD 0⟩
def okSg (σ : Sg) : Bool := decide (1 ≤ σ.s1) && decide (σ.s1 < σ.s2) && decide (σ.s2 ≤ 4) && decide (1 ≤ σ.s3) && decide (σ.s3 ≤ 4) && decide (1 ≤ σ.s4) && decide (σ.s4 ≤ 4) && decide (σ.s3 ≠ σ.s1) && decide (σ.s3 ≠ σ.s2) && decide (σ.s4 ≠ σ.s1) && decide (σ.s4 ≠ σ.s2) && decide (σ.s4 ≠ σ.s3)
/-- what is asked of the numbers -/
def goodSg (σ : Sg) (a b : Nat) (r : List Nat) : Bool :=
  bif okSg σ then (bif Nat.beq (σ.at (σ.name a)) a then (bif Nat.beq (σ.at (σ.name b)) b then (bif eqL ((r.map σ.name).map σ.at) r then memP (σ.name a) (σ.name b) (r.map σ.name) pats else false) else false) else false) else false
def chk (a b : Nat) (r : List Nat) : Bool := goodSg (sgOf a b r) a b r
def four : List Nat := [1, 2, 3, 4]
theorem chk0 : (four.all fun a => four.all fun b => chk a b []) = true := by kernel_rfl
theorem chk1 : (four.all fun a => four.all fun b => four.all fun x => chk a b [x]) = true := by kernel_rfl
theorem chk2 : (four.all fun a => four.all fun b => four.all fun x => four.all fun y => chk a b [x, y]) = true := by kernel_rfl
theorem chk3 : (four.all fun a => four.all fun b => four.all fun x => four.all fun y => four.all fun z => chk a b [x, y, z]) = true := by kernel_rfl
theorem four_mem {x : Nat} (h : 1 ≤ x ∧ x ≤ 4) : x ∈ four := by
  have : x = 1 ∨ x = 2 ∨ x = 3 ∨ x = 4 := by omega
  rcases this with rfl | rfl | rfl | rfl <;> simp [four]
theorem four_all {f : Nat → Bool} (h : four.all f = true) {x : Nat} (hx : 1 ≤ x ∧ x ≤ 4) : f x = true := List.all_eq_true.1 h x (four_mem hx)
theorem chk_all {a b : Nat} {r : List Nat} (ha : 1 ≤ a ∧ a ≤ 4) (hb : 1 ≤ b ∧ b ≤ 4) (hr : ∀ x ∈ r, 1 ≤ x ∧ x ≤ 4) (hl : r.length ≤ 3) : chk a b r = true := by
  match r, hr, hl with
  | [], _, _ => exact four_all (four_all chk0 ha) hb
  | [x], hr, _ => exact four_all (four_all (four_all chk1 ha) hb) (hr x (by simp))
  | [x, y], hr, _ => exact four_all (four_all (four_all (four_all chk2 ha) hb) (hr x (by simp))) (hr y (by simp))
  | [x, y, z], hr, _ => exact four_all (four_all (four_all (four_all (four_all chk3 ha) hb) (hr x (by simp))) (hr y (by simp))) (hr z (by simp))
  | x :: y :: z :: u :: l, _, hl => exact absurd hl (by simp)
/-- there are numbers, and a pattern -/
theorem pattern {a b : Nat} {r : List Nat} (ha : 1 ≤ a ∧ a ≤ 4) (hb : 1 ≤ b ∧ b ≤ 4) (hr : ∀ x ∈ r, 1 ≤ x ∧ x ≤ 4) (hl : r.length ≤ 3) :
    ∃ (σ : Sg) (p : Pat), okSg σ = true ∧ p ∈ pats ∧ σ.at p.1 = a ∧ σ.at p.2.1 = b ∧ p.2.2.map σ.at = r := by
  have h := chk_all ha hb hr hl
  unfold chk goodSg at h
  refine ⟨sgOf a b r, ((sgOf a b r).name a, (sgOf a b r).name b, r.map (sgOf a b r).name), ?_⟩
  generalize sgOf a b r = σ at h
  obtain ⟨h1, h⟩ := bif_false h
  obtain ⟨h2, h⟩ := bif_false h
  obtain ⟨h3, h⟩ := bif_false h
  obtain ⟨h4, h⟩ := bif_false h
  exact ⟨h1, memP_ok h, Nat.eq_of_beq_eq_true h2, Nat.eq_of_beq_eq_true h3, eqL_ok h4⟩
end Go.Proofs.YtbddollbjajcnaaGreat
