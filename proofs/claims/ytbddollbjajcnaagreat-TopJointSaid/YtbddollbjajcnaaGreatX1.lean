/- The evaluator: trees, cells, heaps, and what they stand for. -/
import Derived.RowKit
import Derived.Laws.Entries
import Derived.ProofKit
import Derived.Defers
namespace Go.Proofs.YtbddollbjajcnaaGreat
open Go Go.RowKit
noncomputable section
set_option linter.unusedVariables false
def nv (y : Int) : Int := (wrap64 (y.tmod 4 + 4)).tmod 4
/-- what Next(4) gives, and the place behind it -/
def nextV (xs : List Int) (a : Nat) : Int × Nat :=
  if xs.length = 0 ∨ 4 * xs.length ≤ a then (0, a)
  else if a < xs.length then (nv (xs.getD a 0), a + 1)
  else (nv (bits BinOp.xor IntKind.i64 (xs.getD (a % xs.length) 0 / 2 ^ (a / xs.length)) ((a / xs.length : Nat) : Int)), a + 1)
def seqV (xs : List Int) : Nat → Nat → List Int
  | _, 0 => []
  | a, k + 1 => (nextV xs a).1 :: seqV xs (nextV xs a).2 k
theorem nv_range (y : Int) : 0 ≤ nv y ∧ nv y ≤ 3 := by
  unfold nv
  have h1 : -4 < y.tmod 4 := by have := Int.lt_tmod_of_pos y (b := 4) (by omega); omega
  have h2 : y.tmod 4 < 4 := Int.tmod_lt_of_pos y (by omega)
  have e : wrap64 (y.tmod 4 + 4) = y.tmod 4 + 4 := by unfold wrap64; omega
  rw [e, Int.tmod_eq_emod_of_nonneg (by omega)]
  omega
theorem nextV_range (xs : List Int) (a : Nat) : 0 ≤ (nextV xs a).1 ∧ (nextV xs a).1 ≤ 3 := by
  unfold nextV
  split
  · exact ⟨by simp, by simp⟩
  · split
    · exact nv_range _
    · exact nv_range _
theorem seqV_length (xs : List Int) : ∀ (k a : Nat), (seqV xs a k).length = k
  | 0, a => rfl
  | k + 1, a => by show (seqV xs _ k).length + 1 = _; rw [seqV_length xs k]
theorem seqV_range (xs : List Int) : ∀ (k a : Nat), ∀ v ∈ seqV xs a k, 0 ≤ v ∧ v ≤ 3
  | 0, a, v, h => by cases h
  | k + 1, a, v, h => by
    rcases List.mem_cons.1 h with rfl | h
    · exact nextV_range xs a
    · exact seqV_range xs k _ v h
structure TapeAt (w : World) (bt B : Nat) (xs : List Int) (a : Nat) : Prop where
  c0 : ∃ cap, w.cell? ⟨bt, 0, none⟩ = some (.slice (some ⟨B, 0, none⟩) xs.length cap)
  c1 : w.cell? ⟨bt, 1, none⟩ = some (.int .i64 (a : Int))
  fz : w.frozen? ⟨bt, 1, none⟩ = false
  el : ∀ j x, xs[j]? = some x → w.cell? ⟨B, j, none⟩ = some (.int .i64 x)
  sm : xs.length < 1125899906842624
  ne : bt ≠ B
theorem TapeAt.of {w v : World} {bt B : Nat} {xs : List Int} {a : Nat} (h : TapeAt w bt B xs a) (h1 : v.heap[bt]? = w.heap[bt]?) (h2 : v.heap[B]? = w.heap[B]?) : TapeAt v bt B xs a := by
  have c1 : ∀ o, v.cell? ⟨bt, o, none⟩ = w.cell? ⟨bt, o, none⟩ := fun o => by unfold World.cell?; simp only [h1]
  have c2 : ∀ o, v.cell? ⟨B, o, none⟩ = w.cell? ⟨B, o, none⟩ := fun o => by unfold World.cell?; simp only [h2]
  have f1 : ∀ o, v.frozen? ⟨bt, o, none⟩ = w.frozen? ⟨bt, o, none⟩ := fun o => by unfold World.frozen?; simp only [h1]
  obtain ⟨cap, h0⟩ := h.c0
  exact ⟨⟨cap, (c1 _).trans h0⟩, (c1 _).trans h.c1, (f1 _).trans h.fz, fun j x hx => (c2 _).trans (h.el j x hx), h.sm, h.ne⟩
/-- the values vs come next -/
def tapeTS (w : World) (bt B : Nat) (vs : List Value) : Prop := ∃ xs a, TapeAt w bt B xs a ∧ vs = (seqV xs a vs.length).map (.int .i64)
end
end Go.Proofs.YtbddollbjajcnaaGreat
namespace Go.Proofs.YtbddollbjajcnaaGreat
open Go
noncomputable section
set_option linter.unusedVariables false
/-- block numbers and slots: positive numbers in binary -/
inductive XP where
  | one
  | even (p : XP)
  | odd (p : XP)
def XP.succ : XP → XP
  | .one => .even .one
  | .even p => .odd p
  | .odd p => .even p.succ
def XP.nat : XP → Nat
  | .one => 1
  | .even p => 2 * p.nat
  | .odd p => 2 * p.nat + 1
def XP.ofF : Nat → Nat → XP
  | 0, _ => .one
  | f + 1, n => bif Nat.ble n 1 then .one else bif Nat.beq (Nat.mod n 2) 0 then .even (XP.ofF f (Nat.div n 2)) else .odd (XP.ofF f (Nat.div n 2))
/-- the key of a slot -/
def XP.key (t : Nat) : XP := XP.ofF 20 (Nat.succ t)
def XP.beq : XP → XP → Bool
  | .one, .one => true
  | .even p, .even q => p.beq q
  | .odd p, .odd q => p.beq q
  | _, _ => false
theorem XP.nat_pos : ∀ p : XP, 0 < p.nat
  | .one => by decide
  | .even p => by have := XP.nat_pos p; simp only [XP.nat]; omega
  | .odd p => by simp only [XP.nat]; omega
theorem XP.nat_succ : ∀ p : XP, p.succ.nat = p.nat + 1
  | .one => rfl
  | .even p => rfl
  | .odd p => by simp only [XP.succ, XP.nat, XP.nat_succ p]; omega
theorem XP.nat_inj : ∀ {p q : XP}, p.nat = q.nat → p = q
  | .one, .one, _ => rfl
  | .one, .even q, h => by have := q.nat_pos; simp only [XP.nat] at h; omega
  | .one, .odd q, h => by have := q.nat_pos; simp only [XP.nat] at h; omega
  | .even p, .one, h => by have := p.nat_pos; simp only [XP.nat] at h; omega
  | .odd p, .one, h => by have := p.nat_pos; simp only [XP.nat] at h; omega
  | .even p, .even q, h => by simp only [XP.nat] at h; rw [XP.nat_inj (p := p) (q := q) (by omega)]
  | .odd p, .odd q, h => by simp only [XP.nat] at h; rw [XP.nat_inj (p := p) (q := q) (by omega)]
  | .even p, .odd q, h => by simp only [XP.nat] at h; omega
  | .odd p, .even q, h => by simp only [XP.nat] at h; omega
theorem XP.beq_eq : ∀ {p q : XP}, p.beq q = true ↔ p = q
  | .one, .one => by simp [XP.beq]
  | .one, .even q => by simp [XP.beq]
  | .one, .odd q => by simp [XP.beq]
  | .even p, .one => by simp [XP.beq]
  | .odd p, .one => by simp [XP.beq]
  | .even p, .even q => by simp [XP.beq, XP.beq_eq (p := p) (q := q)]
  | .odd p, .odd q => by simp [XP.beq, XP.beq_eq (p := p) (q := q)]
  | .even p, .odd q => by simp [XP.beq]
  | .odd p, .even q => by simp [XP.beq]
theorem XP.nat_ofF : ∀ (f n : Nat), 0 < n → n < 2 ^ (f + 1) → (XP.ofF f n).nat = n
  | 0, n, h0, h1 => by simp only [XP.ofF, XP.nat]; omega
  | f + 1, n, h0, h1 => by
    simp only [XP.ofF]
    have e : Nat.div n 2 = n / 2 := rfl
    have m : Nat.mod n 2 = n % 2 := rfl
    rw [e, m]
    have h2 : n / 2 < 2 ^ (f + 1) := by
      have : 2 ^ (f + 1 + 1) = 2 * 2 ^ (f + 1) := by rw [Nat.pow_succ]; omega
      omega
    cases hb : Nat.ble n 1 with
    | true =>
      have := Nat.le_of_ble_eq_true hb
      simp only [cond_true, XP.nat]
      omega
    | false =>
      have hb' : ¬ n ≤ 1 := fun h => by rw [Nat.ble_eq_true_of_le h] at hb; cases hb
      simp only [cond_false]
      cases hm : Nat.beq (n % 2) 0 with
      | true =>
        have := Nat.eq_of_beq_eq_true hm
        simp only [cond_true, XP.nat]
        rw [XP.nat_ofF f (n / 2) (by omega) h2]
        omega
      | false =>
        have : n % 2 ≠ 0 := Nat.ne_of_beq_eq_false hm
        simp only [cond_false, XP.nat]
        rw [XP.nat_ofF f (n / 2) (by omega) h2]
        omega
theorem XP.key_inj {t u : Nat} (ht : t < 1000000) (hu : u < 1000000) (h : XP.key t = XP.key u) : t = u := by
  have h1 := XP.nat_ofF 20 (Nat.succ t) (by omega) (by omega)
  have h2 := XP.nat_ofF 20 (Nat.succ u) (by omega) (by omega)
  have h3 := congrArg XP.nat h
  unfold XP.key at h3
  rw [h1, h2] at h3
  omega
inductive XT (α : Type) where
  | leaf
  | node (l : XT α) (v : Option α) (r : XT α)
def XT.get {α : Type} (p : XP) : XT α → Option α :=
  XP.rec (motive := fun _ => XT α → Option α)
    (fun t => XT.rec (motive := fun _ => Option α) none (fun _ v _ _ _ => v) t)
    (fun _ ih t => XT.rec (motive := fun _ => Option α) none (fun l _ _ _ _ => ih l) t)
    (fun _ ih t => XT.rec (motive := fun _ => Option α) none (fun _ _ r _ _ => ih r) t) p
/-- puts, or takes away -/
def XT.put {α : Type} (x : Option α) (p : XP) : XT α → XT α :=
  XP.rec (motive := fun _ => XT α → XT α)
    (fun t => XT.rec (motive := fun _ => XT α) (.node .leaf x .leaf) (fun l _ r _ _ => .node l x r) t)
    (fun _ ih t => XT.rec (motive := fun _ => XT α) (.node (ih .leaf) none .leaf) (fun l v r _ _ => .node (ih l) v r) t)
    (fun _ ih t => XT.rec (motive := fun _ => XT α) (.node .leaf none (ih .leaf)) (fun l v r _ _ => .node l v (ih r)) t) p
theorem XT.get_leaf {α : Type} : ∀ p : XP, XT.get p (.leaf : XT α) = none
  | .one => rfl
  | .even _ => rfl
  | .odd _ => rfl
theorem XT.get_put {α : Type} (x : Option α) : ∀ (p : XP) (t : XT α), XT.get p (XT.put x p t) = x
  | .one, .leaf => rfl
  | .one, .node _ _ _ => rfl
  | .even p, .leaf => XT.get_put x p .leaf
  | .even p, .node l _ _ => XT.get_put x p l
  | .odd p, .leaf => XT.get_put x p .leaf
  | .odd p, .node _ _ r => XT.get_put x p r
theorem XT.get_put_ne {α : Type} (x : Option α) : ∀ (p q : XP) (t : XT α), p ≠ q → XT.get q (XT.put x p t) = XT.get q t
  | .one, .one, _, h => absurd rfl h
  | .one, .even q, .leaf, _ => XT.get_leaf q
  | .one, .odd q, .leaf, _ => XT.get_leaf q
  | .one, .even q, .node _ _ _, _ => rfl
  | .one, .odd q, .node _ _ _, _ => rfl
  | .even p, .one, .leaf, _ => rfl
  | .even p, .one, .node _ _ _, _ => rfl
  | .odd p, .one, .leaf, _ => rfl
  | .odd p, .one, .node _ _ _, _ => rfl
  | .even p, .even q, .leaf, h => (XT.get_put_ne x p q .leaf (fun e => h (by rw [e]))).trans (XT.get_leaf q)
  | .even p, .even q, .node l _ _, h => XT.get_put_ne x p q l (fun e => h (by rw [e]))
  | .odd p, .odd q, .leaf, h => (XT.get_put_ne x p q .leaf (fun e => h (by rw [e]))).trans (XT.get_leaf q)
  | .odd p, .odd q, .node _ _ r, h => XT.get_put_ne x p q r (fun e => h (by rw [e]))
  | .even p, .odd q, .leaf, _ => XT.get_leaf q
  | .even p, .odd q, .node _ _ _, _ => rfl
  | .odd p, .even q, .leaf, _ => XT.get_leaf q
  | .odd p, .even q, .node _ _ _, _ => rfl
/-- two lists, member by member -/
inductive F2 {A B : Type} (R : A → B → Prop) : List A → List B → Prop where
  | nil : F2 R [] []
  | cons {a : A} {b : B} {l : List A} {m : List B} (h : R a b) (t : F2 R l m) : F2 R (a :: l) (b :: m)
theorem F2.length {A B : Type} {R : A → B → Prop} {l : List A} {m : List B} (h : F2 R l m) : l.length = m.length := by
  induction h with
  | nil => rfl
  | cons _ _ ih => simp [ih]
theorem F2.get {A B : Type} {R : A → B → Prop} {l : List A} {m : List B} (h : F2 R l m) : ∀ (i : Nat) (a : A), l[i]? = some a → ∃ b, m[i]? = some b ∧ R a b := by
  induction h with
  | nil => intro i a h; simp at h
  | cons h1 _ ih =>
    intro i a h
    cases i with
    | zero => simp at h; subst h; exact ⟨_, rfl, h1⟩
    | succ i => simpa using ih i a (by simpa using h)
theorem F2.of {A B : Type} {R : A → B → Prop} : ∀ {l : List A} {m : List B}, l.length = m.length → (∀ (i : Nat) (a : A) (b : B), l[i]? = some a → m[i]? = some b → R a b) → F2 R l m
  | [], [], _, _ => .nil
  | [], _ :: _, h, _ => by simp at h
  | _ :: _, [], h, _ => by simp at h
  | a :: l, b :: m, h, k => .cons (k 0 a b rfl rfl) (F2.of (by simpa using h) fun i x y hx hy => k (i + 1) x y (by simpa using hx) (by simpa using hy))
theorem F2.append {A B : Type} {R : A → B → Prop} {l l' : List A} {m m' : List B} (h : F2 R l m) (k : F2 R l' m') : F2 R (l ++ l') (m ++ m') := by
  induction h with
  | nil => exact k
  | cons h1 _ ih => exact .cons h1 ih
theorem F2.take {A B : Type} {R : A → B → Prop} : ∀ (n : Nat) {l : List A} {m : List B}, F2 R l m → F2 R (l.take n) (m.take n)
  | 0, _, _, _ => .nil
  | _ + 1, _, _, .nil => .nil
  | n + 1, _, _, .cons h t => .cons h (F2.take n t)
theorem F2.drop {A B : Type} {R : A → B → Prop} : ∀ (n : Nat) {l : List A} {m : List B}, F2 R l m → F2 R (l.drop n) (m.drop n)
  | 0, _, _, h => h
  | _ + 1, _, _, .nil => .nil
  | n + 1, _, _, .cons _ t => F2.drop n t
abbrev XA := XP × Nat
/-- a capacity: a number, or unknown, for elements of some cells each -/
inductive XCap where
  | is (n : Nat)
  | opn (esz : Nat)
/-- one cell -/
inductive XC where
  | bool (b : Bool)
  | int (k : IntKind) (n : Int)
  | str (s : ByteArray)
  | ptr (a : Option XA)
  | slice (a : Option XA) (len : Nat) (cap : XCap)
  | map (m : Option XP)
  | fn (f : FuncId) (first cap : List (Option XA))
  | nilFn
  | nilI
  | per (k : IntKind) (i : XP) (d : Bool)
inductive XV where
  | one (c : XC)
  | agg (l : List XC)
  | tup (l : List (Bool × List XC))
  | any
/-- an object: a row of cells; a map; a walk over a map -/
inductive XO where
  | row (c : List XC)
  | map (es : List (XV × XV × Nat)) (clock : Nat)
  | iter (m : Option XP) (since : Nat) (seen : List Nat) (stepped : Nat)
  | hid
/-- what is fixed: names below lo are not written; the tape's name, and what it gives; objects that stay as they are -/
structure XK where
  lo : Nat
  tape : Option (XP × XP)
  script : List XC
  base : XT XO
structure XS where
  heap : XT XO
  next : XP
  k : XK
def XS.may (s : XS) (b : XP) : Bool := bif Nat.beq s.k.lo 0 then true else Nat.ble s.k.lo b.nat
theorem XS.may_le {s : XS} {b : XP} (h : s.may b = true) : s.k.lo ≤ b.nat := by
  unfold XS.may at h
  cases hb : Nat.beq s.k.lo 0 with
  | true => rw [Nat.eq_of_beq_eq_true hb]; exact Nat.zero_le _
  | false => rw [hb] at h; exact Nat.le_of_ble_eq_true h
/-- where a block lies: its number, the cells that are there -/
structure XL where
  blk : Nat
  room : Nat
abbrev XM := XP → Option XL
def XM.le (α β : XM) : Prop := ∀ b l, α b = some l → β b = some l
theorem XM.le_refl (α : XM) : α.le α := fun _ _ h => h
theorem XM.le_trans {α β γ : XM} (h : α.le β) (k : β.le γ) : α.le γ := fun b l e => k b l (h b l e)
def PR (α : XM) : Option XA → Value → Prop
  | none, v => v = .pointer none
  | some (b, o), v => ∃ l, α b = some l ∧ v = .pointer (some ⟨l.blk, o, none⟩)
/-- what a cell stands for -/
def CR (α : XM) : XC → Value → Prop
  | .bool b, v => v = .bool b
  | .int k n, v => v = .int k n
  | .str s, v => v = .string s
  | .ptr a, v => PR α a v
  | .slice none n c, v => n = 0 ∧ c = .is 0 ∧ v = .slice none 0 0
  | .slice (some (b, o)) n (.is c), v => n ≤ c ∧ ∃ l, α b = some l ∧ v = .slice (some ⟨l.blk, o, none⟩) n c
  | .slice (some (b, o)) n (.opn z), v => ∃ l c, α b = some l ∧ o + c * z ≤ l.room ∧ n ≤ c ∧ v = .slice (some ⟨l.blk, o, none⟩) n c
  | .map none, v => v = .map none
  | .map (some b), v => ∃ l, α b = some l ∧ v = .map (some l.blk)
  | .fn f xs ys, v => ∃ us vs, F2 (PR α) xs us ∧ F2 (PR α) ys vs ∧ v = .func (.func f) us.toArray vs.toArray
  | .nilFn, v => v = .nilFunc
  | .nilI, v => v = .nilIface
  | .per k i d, v => ∃ l, α i = some l ∧ v = .int k ((l.room : Int) - if d then 1 else 0)
def WR (α : XM) (x : Bool × List XC) (v : Value) : Prop :=
  if x.1 then ∃ vs, F2 (CR α) x.2 vs ∧ v = .agg vs.toArray else ∃ c, x.2 = [c] ∧ CR α c v
def VR (α : XM) : XV → Value → Prop
  | .one c, v => CR α c v
  | .agg l, v => ∃ vs, F2 (CR α) l vs ∧ v = .agg vs.toArray
  | .tup l, v => ∃ vs, F2 (WR α) l vs ∧ v = .tuple vs.toArray
  | .any, _ => True
theorem forall2_mono {A B : Type} {R S : A → B → Prop} (h : ∀ a b, R a b → S a b) {l : List A} {m : List B} (k : F2 R l m) : F2 S l m := by
  induction k with
  | nil => exact .nil
  | cons h1 _ ih => exact .cons (h _ _ h1) ih
theorem PR.mono {α β : XM} (h : α.le β) {a : Option XA} {v : Value} (k : PR α a v) : PR β a v := by
  cases a with
  | none => exact k
  | some p => obtain ⟨l, h1, h2⟩ := k; exact ⟨l, h _ _ h1, h2⟩
theorem CR.mono {α β : XM} (h : α.le β) : ∀ {c : XC} {v : Value}, CR α c v → CR β c v
  | .bool _, _, k => k
  | .int _ _, _, k => k
  | .str _, _, k => k
  | .ptr _, _, k => PR.mono h k
  | .slice none _ _, _, k => k
  | .slice (some (b, o)) n (.is c), _, k => by obtain ⟨h0, l, h1, h2⟩ := k; exact ⟨h0, l, h _ _ h1, h2⟩
  | .slice (some (b, o)) n (.opn z), _, k => by obtain ⟨l, c, h1, h2⟩ := k; exact ⟨l, c, h _ _ h1, h2⟩
  | .map none, _, k => k
  | .map (some b), _, k => by obtain ⟨l, h1, h2⟩ := k; exact ⟨l, h _ _ h1, h2⟩
  | .fn f xs ys, _, k => by obtain ⟨us, vs, h1, h2, h3⟩ := k; exact ⟨us, vs, forall2_mono (fun _ _ => PR.mono h) h1, forall2_mono (fun _ _ => PR.mono h) h2, h3⟩
  | .nilFn, _, k => k
  | .nilI, _, k => k
  | .per _ _ _, _, k => by obtain ⟨l, h1, h2⟩ := k; exact ⟨l, h _ _ h1, h2⟩
theorem WR.mono {α β : XM} (h : α.le β) {x : Bool × List XC} {v : Value} (k : WR α x v) : WR β x v := by
  unfold WR at *
  split at k
  · rename_i hx
    obtain ⟨vs, h1, h2⟩ := k
    rw [if_pos hx]
    exact ⟨vs, forall2_mono (fun _ _ => CR.mono h) h1, h2⟩
  · rename_i hx
    obtain ⟨c, h1, h2⟩ := k
    rw [if_neg hx]
    exact ⟨c, h1, h2.mono h⟩
theorem VR.mono {α β : XM} (h : α.le β) : ∀ {x : XV} {v : Value}, VR α x v → VR β x v
  | .one _, _, k => CR.mono h k
  | .agg _, _, k => by obtain ⟨vs, h1, h2⟩ := k; exact ⟨vs, forall2_mono (fun _ _ => CR.mono h) h1, h2⟩
  | .tup _, _, k => by obtain ⟨vs, h1, h2⟩ := k; exact ⟨vs, forall2_mono (fun _ _ => WR.mono h) h1, h2⟩
  | .any, _, _ => trivial
/-- an entry of a map -/
def ER (α : XM) (e : XV × XV × Nat) (m : MapEntry) : Prop := VR α e.1 m.key ∧ VR α e.2.1 m.val ∧ m.born = e.2.2
/-- what an object stands for, at its place -/
def OR (α : XM) (w : World) (l : XL) : XO → Prop
  | .row c => ∃ (arr : Array Value) (e : TypeId), w.heap[l.blk]? = some (.cells arr e (0, 0)) ∧ c.length ≤ l.room ∧ l.room ≤ arr.size ∧ ∀ (i : Nat) (x : XC), c[i]? = some x → ∃ v, arr[i]? = some v ∧ CR α x v
  | .map es clock => ∃ ms : Array MapEntry, w.heap[l.blk]? = some (.map ms clock) ∧ F2 (ER α) es ms.toList
  | .iter m since seen st => ∃ mb : Option Nat, w.heap[l.blk]? = some (.mapIter mb since seen.toArray st) ∧ (match m with | none => mb = none | some b => ∃ lm, α b = some lm ∧ mb = some lm.blk)
  | .hid => l.blk < w.heap.size
/-- four persons: four numbers from 1 to 4; the first is below the second -/
structure SymOK (α : XM) : Prop where
  at' : ∀ i, Nat.ble i.nat 4 = true → ∃ l, α i = some l ∧ 1 ≤ l.room ∧ l.room ≤ 4
  apart : ∀ i j l m, Nat.ble i.nat 4 = true → Nat.ble j.nat 4 = true → α i = some l → α j = some m → l.room = m.room → i = j
  first : ∀ l m, α .one = some l → α (.even .one) = some m → l.room < m.room
theorem SymOK.mono {α β : XM} (h : α.le β) (k : SymOK α) : SymOK β := by
  refine ⟨fun i hi => ?_, fun i j l m hi hj hl hm e => ?_, fun l m hl hm => ?_⟩
  · obtain ⟨l, h1, h2⟩ := k.at' i hi
    exact ⟨l, h _ _ h1, h2⟩
  · obtain ⟨l', h1, _⟩ := k.at' i hi
    obtain ⟨m', h2, _⟩ := k.at' j hj
    have e1 := (h _ _ h1).symm.trans hl
    have e2 := (h _ _ h2).symm.trans hm
    cases e1
    cases e2
    exact k.apart i j _ _ hi hj h1 h2 e
  · obtain ⟨l', h1, _⟩ := k.at' .one rfl
    obtain ⟨m', h2, _⟩ := k.at' (.even .one) rfl
    have e1 := (h _ _ h1).symm.trans hl
    have e2 := (h _ _ h2).symm.trans hm
    cases e1
    cases e2
    exact k.first _ _ h1 h2
/-- the tape lies apart from all objects, in two blocks -/
def TapeR (α : XM) (s : XS) (w : World) : Prop :=
  ∀ p q, s.k.tape = some (p, q) → ∃ l m vs, α p = some l ∧ α q = some m ∧ XT.get p s.heap = some .hid ∧ m.blk < w.heap.size ∧ (∀ b o n, XT.get b s.heap = some o → α b = some n → n.blk ≠ m.blk) ∧
    F2 (CR α) s.k.script vs ∧ ∀ v : World, v.heap[l.blk]? = w.heap[l.blk]? → v.heap[m.blk]? = w.heap[m.blk]? → tapeTS v l.blk m.blk vs
/-- what must stand in each part of the heap -/
def BaseR (s : XS) : Prop := (∀ b o, XT.get b s.k.base = some o → XT.get b s.heap = some o ∧ b.nat < s.k.lo) ∧ ∀ p q, s.k.tape = some (p, q) → XT.get p s.heap = some .hid
structure HR (α : XM) (s : XS) (w : World) : Prop where
  sym : SymOK α
  low : s.k.lo ≤ s.next.nat
  live : ∀ b o, XT.get b s.heap = some o → ∃ l, α b = some l ∧ OR α w l o
  inj : ∀ b b' o o' l l', XT.get b s.heap = some o → XT.get b' s.heap = some o' → α b = some l → α b' = some l' → l.blk = l'.blk → b = b'
  fresh : ∀ b, s.next.nat ≤ b.nat → α b = none
  tp : TapeR α s w
  base : BaseR s
theorem OR.mono {α β : XM} (h : α.le β) {w : World} {l : XL} : ∀ {o : XO}, OR α w l o → OR β w l o
  | .row c, k => by obtain ⟨arr, e, h1, h2, h3, h4⟩ := k; exact ⟨arr, e, h1, h2, h3, fun i x hx => by obtain ⟨v, h5, h6⟩ := h4 i x hx; exact ⟨v, h5, h6.mono h⟩⟩
  | .map es clock, k => by obtain ⟨ms, h1, h2⟩ := k; exact ⟨ms, h1, forall2_mono (fun _ _ k => ⟨k.1.mono h, k.2.1.mono h, k.2.2⟩) h2⟩
  | .iter none _ _ _, k => by obtain ⟨mb, h1, h2⟩ := k; exact ⟨mb, h1, h2⟩
  | .iter (some b) _ _ _, k => by obtain ⟨mb, h1, lm, h2, h3⟩ := k; exact ⟨mb, h1, lm, h _ _ h2, h3⟩
  | .hid, k => k
/-- the object depends on its own block alone -/
theorem OR.at {α : XM} {w w' : World} {l : XL} (h : w'.heap[l.blk]? = w.heap[l.blk]?) : ∀ {o : XO}, OR α w l o → OR α w' l o
  | .row c, k => by obtain ⟨arr, e, h1, k⟩ := k; exact ⟨arr, e, h.trans h1, k⟩
  | .map es clock, k => by obtain ⟨ms, h1, k⟩ := k; exact ⟨ms, h.trans h1, k⟩
  | .iter m _ _ _, k => by obtain ⟨mb, h1, k⟩ := k; exact ⟨mb, h.trans h1, k⟩
  | .hid, k => by
    have k : l.blk < w.heap.size := k
    rw [Array.getElem?_eq_getElem k] at h
    exact (Array.getElem?_eq_some_iff.1 h).1
theorem OR.lt {α : XM} {w : World} {l : XL} : ∀ {o : XO}, OR α w l o → l.blk < w.heap.size
  | .row c, k => by obtain ⟨arr, e, h1, _⟩ := k; exact (Array.getElem?_eq_some_iff.1 h1).1
  | .map es clock, k => by obtain ⟨ms, h1, _⟩ := k; exact (Array.getElem?_eq_some_iff.1 h1).1
  | .iter m _ _ _, k => by obtain ⟨mb, h1, _⟩ := k; exact (Array.getElem?_eq_some_iff.1 h1).1
  | .hid, k => k
end
end Go.Proofs.YtbddollbjajcnaaGreat
