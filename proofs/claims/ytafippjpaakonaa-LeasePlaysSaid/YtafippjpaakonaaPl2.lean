/- The plain law of leases, for the laws: what keeps a table valid, what stays. -/
import Derived.Test.YtafippjpaakonaaW29
namespace Go.Proofs.Ytafippjpaakonaa
set_option linter.unusedSimpArgs false
set_option linter.unusedVariables false

theorem ok_one : (⟨1, []⟩ : Tb).ok = true := by decide
theorem acq_cases (t : Tb) (n h now d : Int) : acq cds t n h now d = (.zero, 0, 1) ∨ acq cds t n h now d = (.zero, 0, 11) ∨ acq cds t n h now d = (.zero, 0, 8) ∨
    (t.ok = true ∧ timely now d = true ∧ (∀ x, look n t.ls = some x → ¬ now < x.till) ∧ (look n t.ls = none → t.ls.length < 64) ∧ t.next ≠ Top ∧ acq cds t n h now d = (⟨t.next + 1, ins ⟨n, h, t.next, now + d⟩ t.ls⟩, t.next, 0)) := by
  unfold acq
  cases hok : t.ok with
  | false => exact .inl rfl
  | true =>
    cases ht : timely now d with
    | false => exact .inl rfl
    | true =>
      simp only [Bool.not_true, Bool.or_self, Bool.false_eq_true, if_false]
      cases hk : look n t.ls with
      | none =>
        dsimp only
        by_cases hf : 64 ≤ t.ls.length ∨ t.next = Top
        · rw [if_pos hf]; exact .inr (.inr (.inl rfl))
        · rw [if_neg hf]
          exact .inr (.inr (.inr ⟨trivial, trivial, (fun x hx => by cases hx), (fun _ => by omega), (fun e => hf (.inr e)), rfl⟩))
      | some x =>
        dsimp only
        by_cases hx : now < x.till
        · rw [if_pos hx]; exact .inr (.inl rfl)
        · rw [if_neg hx]
          by_cases hf : t.next = Top
          · rw [if_pos hf]; exact .inr (.inr (.inl rfl))
          · rw [if_neg hf]
            exact .inr (.inr (.inr ⟨trivial, trivial, (fun y hy => by cases hy; exact hx), (fun h => by cases h), hf, rfl⟩))
theorem acq_zero {t : Tb} {n h now d : Int} (he : (acq cds t n h now d).2.2 = 0) : t.ok = true ∧ timely now d = true ∧ (∀ x, look n t.ls = some x → ¬ now < x.till) ∧ (look n t.ls = none → t.ls.length < 64) ∧ t.next ≠ Top ∧ acq cds t n h now d = (⟨t.next + 1, ins ⟨n, h, t.next, now + d⟩ t.ls⟩, t.next, 0) := by
  rcases acq_cases t n h now d with e | e | e | e
  · rw [e] at he; cases he
  · rw [e] at he; cases he
  · rw [e] at he; cases he
  · exact e
theorem ok_ins {t : Tb} (h : t.ok = true) (x : Ls) (next : Int) (h1 : t.next ≤ next) (h2 : next ≤ Top) (h3 : 1 ≤ x.token) (h4 : x.token < next) (h5 : look x.name t.ls = none → t.ls.length < 64) : (⟨next, ins x t.ls⟩ : Tb).ok = true := by
  obtain ⟨⟨a, b, c⟩, d, e⟩ := (Tb.ok_iff _).1 h
  refine (Tb.ok_iff _).2 ⟨⟨by show 1 ≤ next; omega, h2, ?_⟩, asc_ins d x, fun y hy => ?_⟩
  · have hl := d.len x.name
    show (ins x t.ls).length ≤ 64
    unfold ins
    simp only [List.length_append, List.length_cons]
    cases hk : look x.name t.ls with
    | none => rw [hk] at hl; have := h5 hk; simp at hl; omega
    | some y => rw [hk] at hl; simp at hl; omega
  · rcases mem_ins hy with rfl | hy
    · exact ⟨h3, h4⟩
    · have := e y hy; exact ⟨this.1, by show y.token < next; omega⟩
theorem acq_okk {t : Tb} {n h now d : Int} (he : (acq cds t n h now d).2.2 = 0) : (acq cds t n h now d).1.ok = true := by
  obtain ⟨h1, h2, h3, h4, h5, h6⟩ := acq_zero he
  obtain ⟨⟨a, b, c⟩, _, _⟩ := (Tb.ok_iff _).1 h1
  rw [h6]
  exact ok_ins h1 ⟨n, h, t.next, now + d⟩ (t.next + 1) (by omega) (by omega) a (by show t.next < t.next + 1; omega) h4
theorem ren_zero {t : Tb} {n h k now d : Int} (he : (ren cds t n h k now d).2 = 0) : t.ok = true ∧ timely now d = true ∧ ∃ x, look n t.ls = some x ∧ x.holder = h ∧ x.token = k ∧ now < x.till ∧ ren cds t n h k now d = (⟨t.next, ins ⟨n, h, k, max x.till (now + d)⟩ t.ls⟩, 0) := by
  unfold ren at he ⊢
  cases hok : t.ok with
  | false => rw [hok] at he; cases he
  | true =>
    rw [hok] at he
    cases ht : timely now d with
    | false => rw [ht] at he; cases he
    | true =>
      rw [ht] at he
      simp only [Bool.not_true, Bool.or_self, Bool.false_eq_true, if_false] at he ⊢
      cases hk : look n t.ls with
      | none => rw [hk] at he; cases he
      | some x =>
        rw [hk] at he
        dsimp only at he ⊢
        by_cases hx : x.holder = h ∧ x.token = k ∧ now < x.till
        · exact ⟨trivial, trivial, x, rfl, hx.1, hx.2.1, hx.2.2, by rw [if_pos hx]⟩
        · rw [if_neg hx] at he; cases he
theorem ren_okk {t : Tb} {n h k now d : Int} (he : (ren cds t n h k now d).2 = 0) : (ren cds t n h k now d).1.ok = true := by
  obtain ⟨h1, h2, x, h3, h4, h5, h6, h7⟩ := ren_zero he
  have hb := (Tb.ok_iff _).1 h1
  have hm := hb.2.2 x (look_some h3).2
  rw [h7]
  exact ok_ins h1 ⟨n, h, k, max x.till (now + d)⟩ t.next (Int.le_refl _) hb.1.2.1 (by show 1 ≤ k; rw [← h5]; exact hm.1) (by show k < t.next; rw [← h5]; exact hm.2) (fun hn => by rw [show look n t.ls = none from hn] at h3; cases h3)
theorem rel_zero {t : Tb} {n h k : Int} (he : (rel cds t n h k).2 = 0) : t.ok = true ∧ rel cds t n h k = (⟨t.next, del n t.ls⟩, 0) := by
  unfold rel at he ⊢
  cases hok : t.ok with
  | false => rw [hok] at he; cases he
  | true =>
    rw [hok] at he
    simp only [Bool.not_true, Bool.or_self, Bool.false_eq_true, if_false] at he ⊢
    cases hk : look n t.ls with
    | none => rw [hk] at he; cases he
    | some x =>
      rw [hk] at he
      dsimp only at he ⊢
      by_cases hx : x.holder = h ∧ x.token = k
      · exact ⟨trivial, by rw [if_pos hx]⟩
      · rw [if_neg hx] at he; cases he
theorem ok_sub {t : Tb} (h : t.ok = true) (l : List Ls) (h1 : Asc l) (h2 : l.length ≤ t.ls.length) (h3 : ∀ x ∈ l, x ∈ t.ls) : (⟨t.next, l⟩ : Tb).ok = true := by
  obtain ⟨⟨a, b, c⟩, d, e⟩ := (Tb.ok_iff _).1 h
  exact (Tb.ok_iff _).2 ⟨⟨a, b, Nat.le_trans h2 c⟩, h1, fun y hy => e y (h3 y hy)⟩
theorem rel_okk {t : Tb} {n h k : Int} (he : (rel cds t n h k).2 = 0) : (rel cds t n h k).1.ok = true := by
  obtain ⟨h1, h2⟩ := rel_zero he
  have hb := (Tb.ok_iff _).1 h1
  rw [h2]
  exact ok_sub h1 _ (asc_del hb.2.1 n) (del_le1 hb.2.1 n) (fun x hx => mem_del hx)
theorem expd_eq {t : Tb} (h : t.ok = true) (now : Int) : expd t now = ⟨t.next, t.ls.filter fun x => decide (now < x.till)⟩ := by
  unfold expd
  rw [h]
  rfl
theorem exp_okk {t : Tb} (h : t.ok = true) (now : Int) : (expd t now).ok = true := by
  have hb := (Tb.ok_iff _).1 h
  rw [expd_eq h]
  exact ok_sub h _ (List.Pairwise.filter _ hb.2.1) (List.length_filter_le _ _) (fun x hx => (List.mem_filter.1 hx).1)
theorem res0 {a : Ac} (h : a.op = 0) (t : Tb) : a.res t = ((acq cds t a.name a.holder a.now a.dur).1, (acq cds t a.name a.holder a.now a.dur).2.2) := by unfold Ac.res; rw [if_pos h]
theorem res1 {a : Ac} (h : a.op = 1) (t : Tb) : a.res t = ren cds t a.name a.holder a.token a.now a.dur := by unfold Ac.res; rw [if_neg (by omega), if_pos h]
theorem res2 {a : Ac} (h : a.op = 2) (t : Tb) : a.res t = rel cds t a.name a.holder a.token := by unfold Ac.res; rw [if_neg (by omega), if_neg (by omega), if_pos h]
theorem res3 {a : Ac} (h : a.op = 3) (t : Tb) : a.res t = (expd t a.now, 0) := by unfold Ac.res; rw [if_neg (by omega), if_neg (by omega), if_neg (by omega), if_pos h]
theorem op_cases (a : Ac) : a.op = 0 ∨ a.op = 1 ∨ a.op = 2 ∨ a.op = 3 := by have := and3 a.kind; unfold Ac.op; omega
theorem stp_ok {t : Tb} (h : t.ok = true) (a : Ac) : (stp t a).ok = true := by
  unfold stp
  by_cases he : (a.res t).2 = 0
  · rw [if_pos he]
    rcases op_cases a with ho | ho | ho | ho
    · rw [res0 ho] at he ⊢; exact acq_okk he
    · rw [res1 ho] at he ⊢; exact ren_okk he
    · rw [res2 ho] at he ⊢; exact rel_okk he
    · rw [res3 ho]; exact exp_okk h _
  · rw [if_neg he]; exact h
theorem stp_len1 {t : Tb} (h : t.ok = true) (a : Ac) : (stp t a).ls.length ≤ t.ls.length + 1 := by
  have hA := ((Tb.ok_iff _).1 h).2.1
  unfold stp
  by_cases he : (a.res t).2 = 0
  · rw [if_pos he]
    rcases op_cases a with ho | ho | ho | ho
    · rw [res0 ho] at he ⊢; rw [(acq_zero he).2.2.2.2.2]; exact ins_le1 hA _
    · rw [res1 ho] at he ⊢; obtain ⟨_, _, x, _, _, _, _, e⟩ := ren_zero he; rw [e]; exact ins_le1 hA _
    · rw [res2 ho] at he ⊢; rw [(rel_zero he).2]; exact Nat.le_trans (del_le1 hA _) (by omega)
    · rw [res3 ho, expd_eq h]; exact Nat.le_trans (List.length_filter_le _ _) (by omega)
  · rw [if_neg he]; omega
theorem fold_ok (l : List Ac) : ∀ t : Tb, t.ok = true → (l.foldl stp t).ok = true ∧ (l.foldl stp t).ls.length ≤ t.ls.length + l.length := by
  induction l with
  | nil => exact fun t h => ⟨h, by simp⟩
  | cons a l ih =>
    intro t h
    obtain ⟨h1, h2⟩ := ih _ (stp_ok h a)
    have := stp_len1 h a
    exact ⟨h1, by simp only [List.foldl_cons, List.length_cons]; omega⟩
theorem mk_ok (l : List Ac) : (mk l).ok = true ∧ (mk l).ls.length ≤ 30 := by
  obtain ⟨h1, h2⟩ := fold_ok (l.take 30) ⟨1, []⟩ ok_one
  refine ⟨h1, Nat.le_trans h2 ?_⟩
  simp
  omega
theorem fnd_eq {t t' : Tb} {n now : Int} (h : t.ok = true) (h' : t'.ok = true) (e : look n t.ls = look n t'.ls) : fnd t n now = fnd t' n now := by
  unfold fnd
  rw [h, h', e]
theorem stp_look {t : Tb} (h : t.ok = true) {a : Ac} {m : Int} (hop : a.op ≠ 3) (hne : a.name ≠ m) : look m (stp t a).ls = look m t.ls := by
  have hm : ¬ m = a.name := fun e => hne e.symm
  unfold stp
  by_cases he : (a.res t).2 = 0
  · rw [if_pos he]
    rcases op_cases a with ho | ho | ho | ho
    · rw [res0 ho] at he ⊢; rw [(acq_zero he).2.2.2.2.2]; dsimp only; rw [look_ins]; exact if_neg hm
    · rw [res1 ho] at he ⊢; obtain ⟨_, _, x, _, _, _, _, e⟩ := ren_zero he; rw [e]; dsimp only; rw [look_ins]; exact if_neg hm
    · rw [res2 ho] at he ⊢; rw [(rel_zero he).2]; dsimp only; rw [look_del]; exact if_neg hm
    · exact absurd ho hop
  · rw [if_neg he]
/-- LeaseOthers -/
theorem law_others (l : List Ac) {a : Ac} {m : Int} (hop : a.op ≠ 3) (hne : a.name ≠ m) : fnd (stp (mk l) a) m a.now = fnd (mk l) m a.now :=
  fnd_eq (stp_ok (mk_ok l).1 a) (mk_ok l).1 (stp_look (mk_ok l).1 hop hne)
/-- LeaseExpires -/
theorem look_exp {t : Tb} (h : t.ok = true) (n now : Int) : look n (expd t now).ls = match look n t.ls with | some x => if now < x.till then some x else none | none => none := by
  have hA := ((Tb.ok_iff _).1 h).2.1
  rw [expd_eq h]
  dsimp only
  have e : ∀ l : List Ls, Asc l → look n (l.filter fun x => decide (now < x.till)) = match look n l with | some x => if now < x.till then some x else none | none => none := by
    intro l
    induction l with
    | nil => intro _; rfl
    | cons y l ih =>
      intro hl
      obtain ⟨h1, h2⟩ := List.pairwise_cons.1 hl
      have ih := ih h2
      by_cases hn : y.name = n
      · have hnone : look n (l.filter fun x => decide (now < x.till)) = none := List.find?_eq_none.2 fun x hx => by
          have := h1 x (List.mem_filter.1 hx).1
          simp; omega
        have ey : look n (y :: l) = some y := by unfold look; rw [List.find?_cons]; simp [hn]
        rw [ey]
        dsimp only
        by_cases hy : now < y.till
        · rw [if_pos hy, List.filter_cons_of_pos (by simpa using hy)]
          unfold look; rw [List.find?_cons]; simp [hn]
        · rw [if_neg hy, List.filter_cons_of_neg (by simpa using hy)]; exact hnone
      · have ey : look n (y :: l) = look n l := by unfold look; rw [List.find?_cons]; simp [hn]
        rw [ey, ← ih]
        by_cases hy : now < y.till
        · rw [List.filter_cons_of_pos (by simpa using hy)]
          unfold look; rw [List.find?_cons]; simp [hn]
        · rw [List.filter_cons_of_neg (by simpa using hy)]
  exact e _ hA
theorem law_exp_find {t : Tb} (h : t.ok = true) (n now : Int) : fnd (expd t now) n now = fnd t n now := by
  unfold fnd
  rw [h, exp_okk h, look_exp h]
  simp only [Bool.not_true, Bool.false_eq_true, if_false]
  cases look n t.ls with
  | none => rfl
  | some x =>
    dsimp only
    by_cases hx : now < x.till
    · rw [if_pos hx]
    · rw [if_neg hx, if_neg hx]
theorem fnd_ins {t : Tb} (h : t.ok = true) {x : Ls} {n now : Int} (e : look n t.ls = some x) (hx : now < x.till) : fnd t n now = (x, true) := by
  unfold fnd
  rw [h, e]
  simp only [Bool.not_true, Bool.false_eq_true, if_false]
  exact if_pos hx
/-- what Acquire says of a table and of the same table without its expired leases -/
theorem law_exp_acq {t : Tb} (h : t.ok = true) (hl : t.ls.length ≤ 30) (n ho now d : Int) :
    ((acq cds t n ho now d).2.2 = 0 ∧ (acq cds (expd t now) n ho now d).2.2 = 0 ∧ (acq cds t n ho now d).2.1 = t.next ∧ (acq cds (expd t now) n ho now d).2.1 = t.next ∧ fnd (acq cds t n ho now d).1 n now = (⟨n, ho, t.next, now + d⟩, true) ∧ fnd (acq cds (expd t now) n ho now d).1 n now = (⟨n, ho, t.next, now + d⟩, true) ∧ (acq cds (expd t now) n ho now d).1.ok = true) ∨
    ((acq cds t n ho now d).2.2 ≠ 0 ∧ (acq cds (expd t now) n ho now d).2.2 ≠ 0 ∧ (acq cds t n ho now d).2.1 = 0 ∧ (acq cds (expd t now) n ho now d).2.1 = 0) := by
  have hx := exp_okk h now
  have hlk := look_exp h n now
  have hen : (expd t now).next = t.next := by rw [expd_eq h]
  have hel : (expd t now).ls.length ≤ 30 := by rw [expd_eq h]; exact Nat.le_trans (List.length_filter_le _ _) hl
  have key : (acq cds t n ho now d).2.2 = 0 ↔ (acq cds (expd t now) n ho now d).2.2 = 0 := by
    constructor
    · intro he
      obtain ⟨_, h2, h3, h4, h5, _⟩ := acq_zero he
      have e0 : look n (expd t now).ls = none := by
        rw [hlk]
        cases hk : look n t.ls with
        | none => rfl
        | some x => dsimp only; rw [if_neg (h3 x hk)]
      unfold acq
      rw [hx, h2, e0]
      simp only [Bool.not_true, Bool.or_self, Bool.false_eq_true, if_false]
      rw [if_neg (by rw [hen]; rintro (a | a); omega; exact h5 a)]
    · intro he
      obtain ⟨_, h2, h3, h4, h5, _⟩ := acq_zero he
      rw [hen] at h5
      unfold acq
      rw [h, h2]
      simp only [Bool.not_true, Bool.or_self, Bool.false_eq_true, if_false]
      cases hk : look n t.ls with
      | none => dsimp only; rw [if_neg (by rintro (a | a); omega; exact h5 a)]
      | some x =>
        dsimp only
        by_cases hxt : now < x.till
        · rw [hk] at hlk; dsimp only at hlk; rw [if_pos hxt] at hlk
          exact absurd hxt (h3 x hlk)
        · rw [if_neg hxt, if_neg h5]
  by_cases he : (acq cds t n ho now d).2.2 = 0
  · have hf := key.1 he
    obtain ⟨_, h2, _, _, _, e1⟩ := acq_zero he
    obtain ⟨_, _, _, _, _, e2⟩ := acq_zero hf
    have hd : 1 ≤ d := by unfold timely at h2; simp at h2; exact h2.1.2
    refine .inl ⟨he, hf, by rw [e1], by rw [e2, hen], ?_, ?_, acq_okk hf⟩
    · refine fnd_ins (acq_okk he) (by rw [e1]; dsimp only; rw [look_ins]; exact if_pos rfl) (by show now < now + d; omega)
    · refine fnd_ins (acq_okk hf) (by rw [e2]; dsimp only; rw [look_ins, hen]; exact if_pos rfl) (by show now < now + d; omega)
  · have hf := fun e => he (key.2 e)
    refine .inr ⟨he, hf, ?_, ?_⟩
    · rcases acq_cases t n ho now d with e | e | e | e
      · rw [e]
      · rw [e]
      · rw [e]
      · exact absurd (by rw [e.2.2.2.2.2]) he
    · rcases acq_cases (expd t now) n ho now d with e | e | e | e
      · rw [e]
      · rw [e]
      · rw [e]
      · exact absurd (by rw [e.2.2.2.2.2]) hf
end Go.Proofs.Ytafippjpaakonaa
