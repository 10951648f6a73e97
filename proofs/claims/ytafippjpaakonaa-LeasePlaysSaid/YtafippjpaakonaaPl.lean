/- The plain law of leases: no program in sight. -/
namespace Go.Proofs.Ytafippjpaakonaa
set_option linter.unusedSimpArgs false
set_option linter.unusedVariables false

/-- a lease -/
structure Ls where
  name : Int
  holder : Int
  token : Int
  till : Int
deriving DecidableEq
/-- a table of leases -/
structure Tb where
  next : Int
  ls : List Ls
deriving DecidableEq
abbrev Top : Int := 1099511627776
def Tb.zero : Tb := ⟨0, []⟩
def Ls.zero : Ls := ⟨0, 0, 0, 0⟩
/-- ascending names, and tokens below next -/
def okLs (next : Int) : List Ls → Bool
  | [] => true
  | [x] => decide (1 ≤ x.token) && decide (x.token < next)
  | x :: y :: l => decide (x.name < y.name) && decide (1 ≤ x.token) && decide (x.token < next) && okLs next (y :: l)
def Tb.ok (t : Tb) : Bool := decide (1 ≤ t.next) && decide (t.next ≤ Top) && decide (t.ls.length ≤ 64) && okLs t.next t.ls
def timely (now d : Int) : Bool := decide (-Top ≤ now) && decide (now ≤ Top) && decide (1 ≤ d) && decide (d ≤ Top)
def lo (n : Int) (l : List Ls) : List Ls := l.filter fun x => decide (x.name < n)
def hi (n : Int) (l : List Ls) : List Ls := l.filter fun x => decide (n < x.name)
def look (n : Int) (l : List Ls) : Option Ls := l.find? fun x => decide (x.name = n)
/-- a lease in the place of its name -/
def ins (x : Ls) (l : List Ls) : List Ls := lo x.name l ++ x :: hi x.name l
def del (n : Int) (l : List Ls) : List Ls := lo n l ++ hi n l
/-- errors: 0 OK, 1 Invalid .. as the program numbers them -/
structure Codes where
  invalid : Int
  state : Int
  full : Int
  expired : Int
def acq (c : Codes) (t : Tb) (n h now d : Int) : Tb × Int × Int :=
  if !t.ok || !timely now d then (.zero, 0, c.invalid) else
  match look n t.ls with
  | some x => if now < x.till then (.zero, 0, c.state) else if t.next = Top then (.zero, 0, c.full) else (⟨t.next + 1, ins ⟨n, h, t.next, now + d⟩ t.ls⟩, t.next, 0)
  | none => if 64 ≤ t.ls.length ∨ t.next = Top then (.zero, 0, c.full) else (⟨t.next + 1, ins ⟨n, h, t.next, now + d⟩ t.ls⟩, t.next, 0)
def ren (c : Codes) (t : Tb) (n h k now d : Int) : Tb × Int :=
  if !t.ok || !timely now d then (.zero, c.invalid) else
  match look n t.ls with
  | some x => if x.holder = h ∧ x.token = k ∧ now < x.till then (⟨t.next, ins ⟨n, h, k, max x.till (now + d)⟩ t.ls⟩, 0) else (.zero, c.expired)
  | none => (.zero, c.expired)
def rel (c : Codes) (t : Tb) (n h k : Int) : Tb × Int :=
  if !t.ok then (.zero, c.invalid) else
  match look n t.ls with
  | some x => if x.holder = h ∧ x.token = k then (⟨t.next, del n t.ls⟩, 0) else (.zero, c.expired)
  | none => (.zero, c.expired)
def fnd (t : Tb) (n now : Int) : Ls × Bool :=
  if !t.ok then (.zero, false) else
  match look n t.ls with
  | some x => if now < x.till then (x, true) else (.zero, false)
  | none => (.zero, false)
def expd (t : Tb) (now : Int) : Tb := if !t.ok then .zero else ⟨t.next, t.ls.filter fun x => decide (now < x.till)⟩

/-- a list in ascending order of names -/
def Asc (l : List Ls) : Prop := l.Pairwise fun x y => x.name < y.name
theorem okLs_iff (next : Int) (l : List Ls) : okLs next l = true ↔ Asc l ∧ ∀ x ∈ l, 1 ≤ x.token ∧ x.token < next := by
  induction l with
  | nil => simp [okLs, Asc]
  | cons x l ih =>
    cases l with
    | nil => simp [okLs, Asc]
    | cons y l =>
      simp only [okLs, Bool.and_eq_true, decide_eq_true_eq, ih]
      unfold Asc
      constructor
      · rintro ⟨⟨⟨h1, h2⟩, h3⟩, h4, h5⟩
        refine ⟨List.pairwise_cons.2 ⟨?_, h4⟩, ?_⟩
        · intro z hz
          rcases List.mem_cons.1 hz with rfl | hz
          · exact h1
          · exact Int.lt_trans h1 ((List.pairwise_cons.1 h4).1 z hz)
        · intro z hz
          rcases List.mem_cons.1 hz with rfl | hz
          · exact ⟨h2, h3⟩
          · exact h5 z hz
      · rintro ⟨h1, h2⟩
        have h3 := List.pairwise_cons.1 h1
        exact ⟨⟨⟨h3.1 y (by simp), (h2 x (by simp)).1⟩, (h2 x (by simp)).2⟩, h3.2, fun z hz => h2 z (List.mem_cons_of_mem _ hz)⟩
theorem Tb.ok_iff (t : Tb) : t.ok = true ↔ (1 ≤ t.next ∧ t.next ≤ Top ∧ t.ls.length ≤ 64) ∧ Asc t.ls ∧ ∀ x ∈ t.ls, 1 ≤ x.token ∧ x.token < t.next := by
  unfold Tb.ok
  simp only [Bool.and_eq_true, decide_eq_true_eq, okLs_iff]
  constructor
  · rintro ⟨⟨⟨a, b⟩, c⟩, d⟩; exact ⟨⟨a, b, c⟩, d⟩
  · rintro ⟨⟨a, b, c⟩, d⟩; exact ⟨⟨⟨a, b⟩, c⟩, d⟩
/-- the place of a name in an ascending list parts it -/
theorem Asc.split {l : List Ls} (h : Asc l) (n : Int) : l = lo n l ++ ((look n l).toList ++ hi n l) := by
  induction l with
  | nil => rfl
  | cons x l ih =>
    have h2 := List.pairwise_cons.1 h
    have ih := ih h2.2
    unfold lo hi look at *
    by_cases h3 : x.name < n
    · have h4 : ¬ x.name = n := by omega
      have h5 : ¬ n < x.name := by omega
      simp only [List.filter_cons, h3, decide_true, if_true, List.find?_cons, h4, decide_false, h5, Bool.false_eq_true, if_false, List.cons_append]
      exact congrArg _ ih
    · have e1 : l.filter (fun y => decide (y.name < n)) = [] := List.filter_eq_nil_iff.2 fun y hy => by have := h2.1 y hy; simp; omega
      by_cases h4 : x.name = n
      · have e2 : l.filter (fun y => decide (n < y.name)) = l := List.filter_eq_self.2 fun y hy => by have := h2.1 y hy; simp; omega
        have h5 : ¬ n < x.name := by omega
        simp [List.filter_cons, h4, e1, e2]
      · have h5 : n < x.name := by omega
        have e2 : l.filter (fun y => decide (n < y.name)) = l := List.filter_eq_self.2 fun y hy => by have := h2.1 y hy; simp; omega
        have e3 : l.find? (fun y => decide (y.name = n)) = none := List.find?_eq_none.2 fun y hy => by have := h2.1 y hy; simp; omega
        simp [List.filter_cons, h3, h4, h5, e1, e2, e3]
theorem look_some {n : Int} {l : List Ls} {x : Ls} (h : look n l = some x) : x.name = n ∧ x ∈ l := by
  unfold look at h
  exact ⟨by have := List.find?_some h; simpa using this, List.mem_of_find?_eq_some h⟩
theorem look_none {n : Int} {l : List Ls} (h : look n l = none) : ∀ x ∈ l, x.name ≠ n := by
  unfold look at h
  intro x hx
  have := List.find?_eq_none.1 h x hx
  simpa using this
theorem mem_lo {n : Int} {l : List Ls} {x : Ls} : x ∈ lo n l ↔ x ∈ l ∧ x.name < n := by simp [lo]
theorem mem_hi {n : Int} {l : List Ls} {x : Ls} : x ∈ hi n l ↔ x ∈ l ∧ n < x.name := by simp [hi]
/-- names other than one: what stands below it, and above it -/
theorem Asc.without {l : List Ls} (h : Asc l) (n : Int) : (l.filter fun x => decide (x.name ≠ n)) = del n l := by
  have e := h.split n
  have e2 : (l.filter fun x => decide (x.name ≠ n)) = (lo n l ++ ((look n l).toList ++ hi n l)).filter fun x => decide (x.name ≠ n) := by rw [← e]
  rw [e2]
  unfold del
  simp only [List.filter_append]
  have e1 : (lo n l).filter (fun x => decide (x.name ≠ n)) = lo n l := List.filter_eq_self.2 fun x hx => by have := (mem_lo.1 hx).2; simp; omega
  have e3 : (hi n l).filter (fun x => decide (x.name ≠ n)) = hi n l := List.filter_eq_self.2 fun x hx => by have := (mem_hi.1 hx).2; simp; omega
  have e4 : (look n l).toList.filter (fun x => decide (x.name ≠ n)) = [] := by
    cases hk : look n l with
    | none => rfl
    | some x => simp [(look_some hk).1]
  rw [e1, e3, e4]
  rfl
theorem asc_lo {l : List Ls} (h : Asc l) (n : Int) : Asc (lo n l) := List.Pairwise.filter _ h
theorem asc_hi {l : List Ls} (h : Asc l) (n : Int) : Asc (hi n l) := List.Pairwise.filter _ h
theorem asc_ins {l : List Ls} (h : Asc l) (x : Ls) : Asc (ins x l) := by
  refine List.pairwise_append.2 ⟨asc_lo h _, List.pairwise_cons.2 ⟨fun y hy => (mem_hi.1 hy).2, asc_hi h _⟩, fun y hy z hz => ?_⟩
  have h1 := (mem_lo.1 hy).2
  rcases List.mem_cons.1 hz with rfl | hz
  · exact h1
  · exact Int.lt_trans h1 (mem_hi.1 hz).2
theorem asc_del {l : List Ls} (h : Asc l) (n : Int) : Asc (del n l) :=
  List.pairwise_append.2 ⟨asc_lo h _, asc_hi h _, fun y hy z hz => Int.lt_trans (mem_lo.1 hy).2 (mem_hi.1 hz).2⟩
theorem mem_ins {x y : Ls} {l : List Ls} (h : y ∈ ins x l) : y = x ∨ y ∈ l := by
  rcases List.mem_append.1 h with h | h
  · exact .inr (mem_lo.1 h).1
  · rcases List.mem_cons.1 h with h | h
    · exact .inl h
    · exact .inr (mem_hi.1 h).1
theorem mem_del {n : Int} {y : Ls} {l : List Ls} (h : y ∈ del n l) : y ∈ l := by
  rcases List.mem_append.1 h with h | h
  · exact (mem_lo.1 h).1
  · exact (mem_hi.1 h).1
theorem Asc.len {l : List Ls} (h : Asc l) (n : Int) : l.length = (lo n l).length + (look n l).toList.length + (hi n l).length := by
  have := congrArg List.length (h.split n)
  simp only [List.length_append] at this
  omega
theorem find_append (p : Ls → Bool) (a b : List Ls) : (a ++ b).find? p = (a.find? p).or (b.find? p) := List.find?_append
theorem look_filter {m : Int} {l : List Ls} (p : Ls → Bool) (h : ∀ x : Ls, x.name = m → p x = true) : look m (l.filter p) = look m l := by
  unfold look
  rw [List.find?_filter]
  congr 1
  funext x
  by_cases hx : x.name = m <;> simp [hx, h]
theorem look_filter_none {m : Int} {l : List Ls} (p : Ls → Bool) (h : ∀ x : Ls, x.name = m → p x = false) : look m (l.filter p) = none :=
  List.find?_eq_none.2 fun x hx => by
    have h1 := List.mem_filter.1 hx
    intro h2
    rw [h x (by simpa using h2)] at h1
    exact absurd h1.2 (by decide)
theorem look_lo_hi {n m : Int} {l : List Ls} (h : m ≠ n) : (look m (lo n l)).or (look m (hi n l)) = look m l := by
  unfold lo hi
  rcases Int.lt_or_gt_of_ne h with h | h
  · rw [look_filter _ (fun x hx => by simp; omega), look_filter_none _ (fun x hx => by simp; omega)]; simp
  · rw [look_filter_none _ (fun x hx => by simp; omega), look_filter _ (fun x hx => by simp; omega)]; simp
theorem look_lo_none (n : Int) (l : List Ls) : look n (lo n l) = none := List.find?_eq_none.2 fun x hx => by have := (mem_lo.1 hx).2; simp; omega
theorem look_hi_none (n : Int) (l : List Ls) : look n (hi n l) = none := List.find?_eq_none.2 fun x hx => by have := (mem_hi.1 hx).2; simp; omega
theorem look_ins (x : Ls) (l : List Ls) (m : Int) : look m (ins x l) = if m = x.name then some x else look m l := by
  have e : look m (ins x l) = (look m (lo x.name l)).or ((if x.name = m then some x else none).or (look m (hi x.name l))) := by
    unfold look ins
    rw [List.find?_append, List.find?_cons]
    congr 1
    by_cases h : x.name = m <;> simp [h]
  rw [e]
  by_cases h : m = x.name
  · subst h; simp [look_lo_none]
  · have h2 : ¬ x.name = m := fun e => h e.symm
    rw [if_neg h2, if_neg h]
    exact look_lo_hi h
theorem look_del (n : Int) (l : List Ls) (m : Int) : look m (del n l) = if m = n then none else look m l := by
  have e : look m (del n l) = (look m (lo n l)).or (look m (hi n l)) := by unfold look del; rw [List.find?_append]
  rw [e]
  by_cases h : m = n
  · subst h; simp [look_lo_none, look_hi_none]
  · rw [if_neg h, look_lo_hi h]
end Go.Proofs.Ytafippjpaakonaa
