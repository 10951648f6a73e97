/- A region that draws its order: reads that may come at any time (what they read is held by every world on the way), and the others in one forced order between them. -/
import Derived.Test.YteakoleceoclkaaQ5
import Derived.OrdersHeld
import Derived.Deep.RegionHeld
namespace Go.Proofs.Yteakoleceoclkaa
open Go.RowKit

section
variable {P : Program} {ops : Array Oper} {S : World → Prop} {Q : Exit → Act → World → Prop}
def doB (ops : Array Oper) : List Nat → Array Bool → Bool
  | [], listed => (Region.ready .any ops listed).isEmpty
  | j :: js, listed => decide (Region.ready .any ops listed = [j]) && doB ops js (listed.setIfInBounds j true)
def takeB (ops : Array Oper) (js : List Nat) : List Nat → Array Bool → Bool
  | [], listed => doB ops js listed
  | i :: is, listed => (Region.ready .any ops listed).contains i && Region.free .any ops listed i && takeB ops js is (listed.setIfInBounds i true)
/-- operations that yield in every world that holds S, their values put down one after another -/
def wpTake (P : Program) (ops : Array Oper) (S : World → Prop) (K : Act → Prop) : List Oper → Act → Prop
  | [], a => K a
  | o :: r, a => ∃ v, YieldsIf P ops S o v a ∧ wpTake P ops S K r (a.put o.dst v)
/-- one operation goes on, and S holds behind it -/
def postS (S : World → Prop) (K : Act → World → Prop) (Q : Exit → Act → World → Prop) : Exit → Act → World → Prop
  | .normal, a, w => S w ∧ K a w
  | e, a, w => Q e a w
def wpDo (P : Program) (ops : Array Oper) (S : World → Prop) (Q : Exit → Act → World → Prop) : List Oper → Act → World → Prop
  | [], a, w => Q .normal a w
  | o :: r, a, w => wpList P ops (postS S (wpDo P ops S Q r) Q) [o] a w
theorem wpAnyH_do : ∀ (js : List Nat) (listed : Array Bool) (a : Act) (w : World), doB ops js listed = true → wpDo P ops S Q (js.filterMap fun i => ops[i]?) a w → wpAnyH P .any ops Q S js.length listed a w
  | [], listed, a, w, hB, h => ⟨by simpa [doB] using hB, h⟩
  | j :: js, listed, a, w, hB, h => by
    simp only [doB, Bool.and_eq_true, decide_eq_true_eq] at hB
    obtain ⟨hr, hB'⟩ := hB
    refine wpAnyH_all hr (by simp) fun i hi => ?_
    obtain rfl := List.mem_singleton.1 hi
    have hi2 : i ∈ Region.ready .any ops listed := by rw [hr]; exact List.mem_singleton.2 rfl
    obtain ⟨_, o, ho, _⟩ := mem_ready.1 hi2
    have h' : wpDo P ops S Q (o :: js.filterMap fun i => ops[i]?) a w := by simpa [List.filterMap_cons, ho] using h
    unfold wpDo wpList at h'
    unfold wpOp
    simp only [ho]
    split
    · rename_i hw
      rw [if_pos hw] at h'
      rcases h' with h' | ⟨hr0, h'⟩
      · refine .inl ?_
        have key : ∀ (K K' : Act → World → Prop) (Q1 : Exit → Act → World → Prop), (∀ a w, K a w → K' a w) → (∀ e a w, e ≠ .normal → Q1 e a w → Q e a w) → Oper.wp P o a w K Q1 → Oper.wp P o a w K' Q := by
          intro K K' Q1 hK hQ1 hh
          unfold Oper.wp at hh ⊢
          generalize (execOp a.eval o).run P w = r at *
          cases r with
          | ok x w' =>
            cases x <;> simp only [Oper.upon] at hh ⊢
            case value => exact hK _ _ hh
            case skip => exact hK _ _ hh
            case defer => exact hK _ _ hh
            case enter =>
              refine hh.mono fun e w' hx => ?_
              cases e <;> simp only at hx ⊢
              · exact hK _ _ hx
              · exact hQ1 _ _ _ (by simp) hx
              · obtain ⟨a1, w1, h1⟩ := hx
                exact ⟨a1, w1, hQ1 _ _ _ (by simp) h1⟩
            case row => exact fun c cs => let ⟨v, w', r, s⟩ := hh c cs; ⟨v, w', hK _ _ r, s⟩
          | halt x w' => cases x <;> simp only [Oper.upon] at hh ⊢ <;> first | exact hh | exact hQ1 _ _ _ (by simp) hh
        exact key _ _ _ (fun a' w' hh => by unfold wpList postS at hh; exact ⟨hh.1, wpAnyH_do js _ a' w' hB' hh.2⟩) (fun e a' w' hne hh => by cases e <;> first | exact hh | exact absurd rfl hne) h'
      · obtain ⟨a1, w1, h1⟩ := h'
        exact .inr ⟨by assumption, a1, w1, h1⟩
    · rename_i hw
      rw [if_neg hw] at h'
      unfold wpList postS at h'
      exact ⟨h'.1, wpAnyH_do js _ _ w hB' h'.2⟩
theorem wpAnyH_takes (hsel : Region.noSelect ops = true) (hQ : ∀ c a d v w, Q (.panic c) (Act.put a d v) w → Q (.panic c) a w) (js : List Nat) {w : World} (hS : S w) :
    ∀ (is : List Nat) (listed : Array Bool) (a : Act), takeB ops js is listed = true → wpTake P ops S (fun a' => wpDo P ops S Q (js.filterMap fun i => ops[i]?) a' w) (is.filterMap fun i => ops[i]?) a → wpAnyH P .any ops Q S (is.length + js.length) listed a w
  | [], listed, a, hB, h => by rw [List.length_nil, Nat.zero_add]; exact wpAnyH_do js listed a w hB h
  | i :: is, listed, a, hB, h => by
    simp only [takeB, Bool.and_eq_true] at hB
    obtain ⟨⟨hr, hf⟩, hB'⟩ := hB
    have hr' : i ∈ Region.ready .any ops listed := by simpa using hr
    obtain ⟨_, o, ho, _⟩ := mem_ready.1 hr'
    have h' : wpTake P ops S (fun a' => wpDo P ops S Q (js.filterMap fun i => ops[i]?) a' w) (o :: is.filterMap fun i => ops[i]?) a := by simpa [List.filterMap_cons, ho] using h
    obtain ⟨v, hy, hk⟩ := h'
    rw [List.length_cons, show is.length + 1 + js.length = (is.length + js.length) + 1 by omega]
    exact wpAnyH_take ho hsel hf hr (fun c a w h => hQ c a _ _ w h) hy hS (wpAnyH_takes hsel hQ js hS is _ _ hB' hk)
end
/-- A REGION THAT DRAWS: reads in whatever place, the others in one forced order -/
theorem region_script {P : Program} {Q : Exit → Act → World → Prop} {id : Nat} {l : List Oper} {a : Act} {w : World} (S : World → Prop) (is js : List Nat) (hm : P.follows .mixedOrders = true) (hsel : Region.noSelect l.toArray = true)
    (hQ : ∀ c a d v w, Q (.panic c) (Act.put a d v) w → Q (.panic c) a w) (hlen : is.length + js.length = l.toArray.size) (hB : takeB l.toArray js is (Array.replicate l.toArray.size false) = true) (hS : S w.drew)
    (h : wpTake P l.toArray S (fun a' => wpDo P l.toArray S Q (js.filterMap fun i => l.toArray[i]?) a' w.drew) (is.filterMap fun i => l.toArray[i]?) a) : (Code.region id l.toArray true).wp P Q a w := by
  refine wp_region_held_drew hm hS fun _ => ?_
  have := wpAnyH_takes hsel hQ js hS is _ a hB h
  rwa [hlen] at this
section
variable {P : Program} {ops : Array Oper} {S : World → Prop} {K : Act → Prop} {o : Oper} {r : List Oper} {a : Act} {v : Value}
theorem take_run (hg : o.guard = none) (hr : ∀ w, S w → (execOp a.eval o).run P w = .ok (.value v) w) (h : wpTake P ops S K r (a.put o.dst v)) : wpTake P ops S K (o :: r) a :=
  ⟨v, .inl ⟨by simp [Region.wanted, hg], hr⟩, h⟩
theorem take_move (hg : o.guard = none) (x : Operand) (ho : o.op = .move x) (hx : a.eval x = v) (h : wpTake P ops S K r (a.put o.dst v)) : wpTake P ops S K (o :: r) a :=
  take_run hg (fun w _ => by simp [execOp, ho, hx]) h
theorem take_load (hg : o.guard = none) (T : TypeId) (x : Operand) (ho : o.op = .load T x) {p : Value} (hx : a.eval x = p) (hr : ∀ w, S w → (Instr.loadAt T p).run P w = .ok v w) (h : wpTake P ops S K r (a.put o.dst v)) : wpTake P ops S K (o :: r) a :=
  take_run hg (fun w hw => by simp only [execOp, ho, hx, Sem.run_bind, Sem.run_pure, Result.andThen_ok, hr w hw]) h
theorem take_slice (hg : o.guard = none) (t : TypeId) (x : Operand) (lo hi : Option Operand) (ho : o.op = .slice t x lo hi none) {vx : Value} (hx : a.eval x = vx) {l u : Option Value} (hl : lo.map a.eval = l) (hu : hi.map a.eval = u)
    (hr : ∀ w, (Instr.sliceAt t vx l u none).run P w = .ok v w) (h : wpTake P ops S K r (a.put o.dst v)) : wpTake P ops S K (o :: r) a :=
  take_run hg (fun w _ => by simp only [execOp, ho, Sem.run_bind, Sem.run_pure, Result.andThen_ok, hx, hl, hu, Option.map_none, hr w]) h
end
/-- an operation that yields, its run given -/
theorem wpList_val {P : Program} {w w2 : World} {ops : Array Oper} {rest : List Oper} {o : Oper} {a : Act} {Q : Exit → Act → World → Prop} {v : Value} (hgd : o.guard = none) (hr : (execOp a.eval o).run P w = .ok (.value v) w2)
    (h : wpList P ops Q rest (a.put o.dst v) w2) : wpList P ops Q (o :: rest) a w := by
  refine wpList_plain hgd fun K hK => ?_
  unfold Oper.wp
  rw [hr]
  exact hK _ _ h
theorem rangeAt_one {w : World} {b k : Nat} {v : Value} (h : w.cell? ⟨b, k, none⟩ = some v) : w.rangeAt b k [v] := fun j u hj => by
  cases j with
  | zero => simp at hj; subst hj; exact h
  | succ j => simp at hj
end Go.Proofs.Yteakoleceoclkaa
