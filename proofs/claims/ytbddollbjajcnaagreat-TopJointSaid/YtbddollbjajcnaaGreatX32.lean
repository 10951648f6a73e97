/- The evaluator: functions. -/
import Derived.Test.YtbddollbjajcnaaGreatX31
namespace Go.Proofs.YtbddollbjajcnaaGreat
open Go
noncomputable section
set_option linter.unusedVariables false
set_option linter.unusedSimpArgs false
variable {P : Program}
def enterT : List XV → Nat → XT XV → XT XV
  | [], _, m => m
  | x :: l, i, m => enterT l (Nat.succ i) (XT.put (some x) (XP.key i) m)
def enterX (n : Nat) (args : List XV) : XF := ⟨enterT args 0 .leaf, n⟩
theorem enterT_get {t : Nat} (ht : t < 1000000) {v : XV} : ∀ {l : List XV} {i : Nat} {m : XT XV}, i + l.length ≤ 1000000 → XT.get (XP.key t) (enterT l i m) = some v → (∃ j, t = i + j ∧ l[j]? = some v) ∨ XT.get (XP.key t) m = some v
  | [], i, m, _, h => .inr h
  | x :: l, i, m, hl, h => by
    simp only [List.length_cons] at hl
    rcases enterT_get ht (l := l) (i := Nat.succ i) (by omega) h with ⟨j, h1, h2⟩ | h1
    · exact .inl ⟨j + 1, by omega, by simpa using h2⟩
    · by_cases e : i = t
      · subst e
        rw [XT.get_put] at h1
        exact .inl ⟨0, rfl, by simpa using h1⟩
      · rw [XT.get_put_ne _ _ _ _ (fun q => e (XP.key_inj (by omega) ht q))] at h1
        exact .inr h1
theorem enter_ok {α : XM} {args : List XV} {vs : List Value} (h : F2 (VR α) args vs) {n : Nat} (hn : args.length ≤ n) (hs : n ≤ 1000000) : FR1 α (enterX n args) { tmps := vs.toArray ++ Array.replicate (n - vs.toArray.size) undef, defers := [] } := by
  have hl := h.length
  refine ⟨?_, hs, fun t v ht hv => ?_⟩
  · show (vs.toArray ++ Array.replicate (n - vs.toArray.size) undef).size = n
    simp
    omega
  · have ht : t < n := ht
    rcases enterT_get (by omega) (by omega) hv with ⟨j, h1, h2⟩ | h1
    · rw [Nat.zero_add] at h1
      subst h1
      obtain ⟨u, h3, h4⟩ := h.get _ _ h2
      have hlt : t < vs.length := (List.getElem?_eq_some_iff.1 h3).1
      show VR α v ((vs.toArray ++ Array.replicate (n - vs.toArray.size) undef).getD t undef)
      rw [Array.getD_eq_getD_getElem?, Array.getElem?_append_left (by simpa using hlt)]
      simp only [List.getElem?_toArray, h3, Option.getD_some]
      exact h4
    · rw [XT.get_leaf] at h1
      cases h1
def resV (P : Program) (f : XF) (s : XS) : ResultVar → Option XV
  | .tmp t => bif Nat.blt t f.n then XT.get (XP.key t) f.tm else none
  | .cell a t => bif Nat.blt a f.n then (match XT.get (XP.key a) f.tm with
    | some (.one (.ptr (some p))) => loadX P s t p.1 p.2
    | _ => none) else none
def getR (tmps : Array Value) : ResultVar → Sem Value
  | .tmp t => pure (tmps.getD t undef)
  | .cell a t => do loadVar t (← asAddr (tmps.getD a undef))
theorem resV_ok {α : XM} {f : XF} {s : XS} {a : Act} {w : World} (H : HR α s w) (F : FR1 α f a) {r : ResultVar} {x : XV} (h : resV P f s r = some x) : ∃ v, (getR a.tmps r).run P w = .ok v w ∧ VR α x v := by
  cases r with
  | tmp t =>
    obtain ⟨hb, h⟩ := bif_some h
    exact ⟨_, rfl, F.val t x (blt_lt hb) h⟩
  | cell p t =>
    obtain ⟨hb, h⟩ := bif_some h
    split at h
    · rename_i q hq
      obtain ⟨b, o⟩ := q
      obtain ⟨l, h1, h2⟩ := F.val p _ (blt_lt hb) hq
      obtain ⟨v, h3, h4⟩ := loadX_ok (P := P) H h h1
      refine ⟨v, ?_, h4⟩
      show (do loadVar t (← asAddr (a.tmps.getD p undef)) : Sem Value).run P w = _
      rw [h2]
      simp [asAddr, h3]
    · cases h
def resX (P : Program) (fn : Func) (f : XF) (s : XS) : Option XV :=
  match fn.results.toList with
  | [] => some (.tup [])
  | [r] => resV P f s r
  | [r, q] => ob (resV P f s r) fun x => ob (resV P f s q) fun y => ob (wrapX x) fun x => ob (wrapX y) fun y => some (.tup [x, y])
  | [r, q, u] => ob (resV P f s r) fun x => ob (resV P f s q) fun y => ob (resV P f s u) fun z => ob (wrapX x) fun x => ob (wrapX y) fun y => ob (wrapX z) fun z => some (.tup [x, y, z])
  | _ => none
theorem resX_ok {α : XM} {fn : Func} {f : XF} {s : XS} {a : Act} {w : World} (H : HR α s w) (F : FR1 α f a) {x : XV} (h : resX P fn f s = some x) : ∃ v, (results fn a.tmps).run P w = .ok v w ∧ VR α x v := by
  have hg : results fn a.tmps = (do let vs ← fn.results.mapM (getR a.tmps); pure (if h : vs.size = 1 then vs[0] else .tuple vs) : Sem Value) := by
    unfold results
    congr 1
  rw [hg]
  unfold resX at h
  split at h
  · rename_i hr
    cases h
    have e : fn.results = #[] := Array.ext' hr
    rw [e]
    exact ⟨.tuple #[], by simp, [], .nil, rfl⟩
  · rename_i r hr
    have e : fn.results = #[r] := Array.ext' hr
    rw [e]
    obtain ⟨v, h1, h2⟩ := resV_ok H F h
    exact ⟨v, by simp [h1], h2⟩
  · rename_i r q hr
    have e : fn.results = #[r, q] := Array.ext' hr
    rw [e]
    obtain ⟨x1, h1, h⟩ := ob_some h
    obtain ⟨y1, h2, h⟩ := ob_some h
    obtain ⟨x2, h3, h⟩ := ob_some h
    obtain ⟨y2, h4, h⟩ := ob_some h
    cases h
    obtain ⟨v, h5, h6⟩ := resV_ok H F h1
    obtain ⟨u, h7, h8⟩ := resV_ok H F h2
    exact ⟨.tuple #[v, u], by simp [h5, h7], [v, u], .cons (wrapX_ok h6 h3) (.cons (wrapX_ok h8 h4) .nil), rfl⟩
  · rename_i r q u hr
    have e : fn.results = #[r, q, u] := Array.ext' hr
    rw [e]
    obtain ⟨x1, h1, h⟩ := ob_some h
    obtain ⟨y1, h2, h⟩ := ob_some h
    obtain ⟨z1, h3, h⟩ := ob_some h
    obtain ⟨x2, h4, h⟩ := ob_some h
    obtain ⟨y2, h5, h⟩ := ob_some h
    obtain ⟨z2, h6, h⟩ := ob_some h
    cases h
    obtain ⟨v, h7, h8⟩ := resV_ok H F h1
    obtain ⟨u', h9, h10⟩ := resV_ok H F h2
    obtain ⟨z', h11, h12⟩ := resV_ok H F h3
    exact ⟨.tuple #[v, u', z'], by simp [h7, h9, h11], [v, u', z'], .cons (wrapX_ok h8 h4) (.cons (wrapX_ok h10 h5) (.cons (wrapX_ok h12 h6) .nil)), rfl⟩
  · cases h
/-- a table of functions -/
inductive TB where
  | leaf
  | one (g : FuncId) (fn : Func)
  | node (k : Nat) (l r : TB)
def TB.at (g : FuncId) : TB → Option Func
  | .leaf => none
  | .one h fn => bif Nat.beq g h then some fn else none
  | .node k l r => bif Nat.blt g k then TB.at g l else TB.at g r
/-- what is asked of a function of the table -/
def FnOK (P : Program) (g : FuncId) (fn : Func) : Prop := P.funcs[g]? = some fn ∧ (fn.name == "runtime.NumGoroutine") = false ∧ ∃ c, fn.body = some c ∧ okC c = true
inductive TB.OK (P : Program) : TB → Prop where
  | leaf : TB.OK P .leaf
  | one {g : FuncId} {fn : Func} (h : FnOK P g fn) : TB.OK P (.one g fn)
  | node {k : Nat} {l r : TB} (hl : TB.OK P l) (hr : TB.OK P r) : TB.OK P (.node k l r)
theorem TB.at_ok {g : FuncId} {fn : Func} : ∀ {t : TB}, t.OK P → t.at g = some fn → FnOK P g fn
  | .leaf, _, h => by cases h
  | .one g' fn', .one k, h => by
    unfold TB.at at h
    obtain ⟨h1, h2⟩ := bif_some h
    cases h2
    rw [Nat.eq_of_beq_eq_true h1]
    exact k
  | .node k l r, .node hl hr, h => by
    unfold TB.at at h
    cases hb : Nat.blt g k with
    | true => rw [hb] at h; exact TB.at_ok hl h
    | false => rw [hb] at h; exact TB.at_ok hr h
def recT (T : TB) (g : FuncId) : Bool :=
  match T.at g with
  | some fn => recB fn
  | none => false
theorem FnOK.e {g : FuncId} {fn : Func} (h : FnOK P g fn) : FnE P g := by
  obtain ⟨h1, h2, c, h3, _⟩ := h
  exact FnE.of h1 h2 h3
theorem recT_ok {T : TB} (h : T.OK P) : RecF P (recT T) := fun g hg => by
  unfold recT at hg
  split at hg
  · rename_i fn hf
    have hk := TB.at_ok h hf
    exact ⟨hk.e, fun w => rec_calls hk.1 hg w⟩
  · cases hg
def leaveX (P : Program) (fn : Func) : Outs → Option (List (XV × XS))
  | [] => some []
  | (e, f, s) :: l => match e with
    | .exit _ => none
    | _ => ob (resX P fn f s) fun x => ob (leaveX P fn l) fun r => some ((x, s) :: r)
theorem leaveX_ok {fn : Func} : ∀ {l : Outs} {r : List (XV × XS)}, leaveX P fn l = some r → ∀ e f s, (e, f, s) ∈ l → (e = .normal ∨ e = .ret) ∧ ∃ x, resX P fn f s = some x ∧ (x, s) ∈ r
  | [], r, _, e, f, s, hm => by cases hm
  | (e', f', s') :: l, r, h, e, f, s, hm => by
    unfold leaveX at h
    have go : (∀ id, e' ≠ .exit id) → (ob (resX P fn f' s') fun x => ob (leaveX P fn l) fun r => some ((x, s') :: r)) = some r → (e = .normal ∨ e = .ret) ∧ ∃ x, resX P fn f s = some x ∧ (x, s) ∈ r := fun hne h => by
      obtain ⟨x, h1, h⟩ := ob_some h
      obtain ⟨q, h2, h⟩ := ob_some h
      cases h
      rcases List.mem_cons.1 hm with k | hm
      · cases k
        refine ⟨?_, x, h1, List.mem_cons_self⟩
        cases e' with
        | normal => exact .inl rfl
        | ret => exact .inr rfl
        | exit id => exact absurd rfl (hne id)
      · obtain ⟨k1, y, k2, k3⟩ := leaveX_ok h2 e f s hm
        exact ⟨k1, y, k2, List.mem_cons_of_mem _ k3⟩
    cases e' with
    | exit id => cases h
    | normal => exact go (fun id h => by cases h) h
    | ret => exact go (fun id h => by cases h) h
def fnX (P : Program) (T : TB) (rec : RecC) (g : FuncId) (args : List XV) (s : XS) : Option (List (XV × XS)) :=
  ob (T.at g) fun fn => ob fn.body fun c => bif Nat.ble (lenL args) fn.ntmps then (bif Nat.ble fn.ntmps 1000000 then ob (rec c (enterX fn.ntmps args) s) (leaveX P fn) else none) else none
theorem fnX_ok {T : TB} (hT : T.OK P) {rec : RecC} (hr : rec.OK P) {g : FuncId} {args : List XV} {s : XS} {outs : List (XV × XS)} (h : fnX P T rec g args s = some outs) : FnE P g ∧ CallOK P g args s outs := by
  obtain ⟨fn, h1, h⟩ := ob_some h
  obtain ⟨c, h2, h⟩ := ob_some h
  obtain ⟨h3, h⟩ := bif_some h
  obtain ⟨h4, h⟩ := bif_some h
  obtain ⟨l, h5, h6⟩ := ob_some h
  have hk := TB.at_ok hT h1
  refine ⟨hk.e, fun α w vs H hargs R hR => ?_⟩
  obtain ⟨k1, k2, c', k3, k4⟩ := hk
  rw [h2] at k3
  cases k3
  have h3 := Nat.le_of_ble_eq_true h3
  rw [lenL_eq] at h3
  refine calls_of_wp_defers k1 h2 ?_
  refine hr c _ s l k4 h5 α _ w H (enter_ok hargs h3 (Nat.le_of_ble_eq_true h4)) (fun d hd => by cases hd) _ fun e f t hm β a' w' q1 q2 q3 q4 q5 => ?_
  obtain ⟨hor, x, hx, hmem⟩ := leaveX_ok h6 e f t hm
  obtain ⟨v, hv, hvr⟩ := resX_ok q1 q4 hx
  have hleave : Leaves P fn a'.tmps R a'.defers .returning w' := leaves_ret hv (hR x t hmem β v w' hvr q1 q2 q3) q5
  rcases hor with rfl | rfl
  · exact hleave
  · exact hleave
def litV : XV → Bool
  | .one c => match c with
    | .bool _ => true
    | .int _ _ => true
    | .str _ => true
    | _ => false
  | _ => false
theorem litV_ok {α β : XM} {x : XV} {v : Value} (h : litV x = true) (k : VR α x v) : VR β x v := by
  unfold litV at h
  split at h
  · split at h <;> first | exact k | cases h
  · cases h
def sameAll (x : XV) : List (XV × XS) → Bool
  | [] => true
  | p :: l => bif sameV p.1 x then sameAll x l else false
theorem sameAll_ok {x : XV} : ∀ {l : List (XV × XS)}, sameAll x l = true → ∀ p ∈ l, p.1 = x
  | [], _, p, hp => by cases hp
  | q :: l, h, p, hp => by
    obtain ⟨h1, h2⟩ := bif_false h
    rcases List.mem_cons.1 hp with rfl | hp
    · exact sameV_ok h1
    · exact sameAll_ok h2 p hp
/-- a call that writes nothing that was there, and gives a plain value: what it made is forgotten -/
def sandX (run : XS → Option (List (XV × XS))) (s : XS) : Option (List (XV × XS)) :=
  ob (run ⟨s.heap, s.next, ⟨s.next.nat, s.k.tape, s.k.script, s.k.base⟩⟩) fun outs => match outs with
    | [] => none
    | p :: r => bif litV p.1 then (bif sameAll p.1 r then some [(p.1, s)] else none) else none
theorem HR.frozen {α β : XM} {s t : XS} {w v : World} (h : HR α s w) (g : GR α ⟨s.heap, s.next, ⟨s.next.nat, s.k.tape, s.k.script, s.k.base⟩⟩ w β t v) : HR α s v ∧ GR α s w α s v := by
  have hold : ∀ b o l, XT.get b s.heap = some o → α b = some l → l.blk < w.heap.size → v.heap[l.blk]? = w.heap[l.blk]? := fun b o l hb hl hlt => by
    have hlow : b.nat < s.next.nat := by
      rcases Nat.lt_or_ge b.nat s.next.nat with q | q
      · exact q
      · rw [h.fresh b q] at hl; cases hl
    exact (g.froz b o l hb hlow hl hlt).2
  have G : GR α s w α s v := ⟨XM.le_refl α, g.os, g.tape, g.output, g.size, g.keep, fun b o l h1 h2 => .inr ⟨b, o, l, h1, h2, rfl⟩, Nat.le_refl _, rfl, fun b o l h1 _ h3 h4 => ⟨h1, hold b o l h1 h3 h4⟩, fun _ _ => rfl, fun b o h1 => .inl ⟨o, h1⟩, Nat.le_refl _, fun _ => rfl, fun _ b l h1 h3 h4 => ⟨h1, hold b _ l h1 h3 h4⟩⟩
  have m := h.more G rfl
  exact ⟨⟨h.sym, h.low, fun b o hb => by
    obtain ⟨l, h1, h2⟩ := h.live b o hb
    exact ⟨l, h1, OR.at (hold b o l hb h1 h2.lt) h2⟩, h.inj, h.fresh, m.1, m.2⟩, G⟩
theorem sandX_ok {g : FuncId} {args : List XV} {run : XS → Option (List (XV × XS))} (hr : ∀ s outs, run s = some outs → FnE P g ∧ CallOK P g args s outs) {s : XS} {outs : List (XV × XS)} (h : sandX run s = some outs) : FnE P g ∧ CallOK P g args s outs := by
  obtain ⟨os, h1, h⟩ := ob_some h
  obtain ⟨hE, hC⟩ := hr _ _ h1
  split at h
  · cases h
  · rename_i p r
    obtain ⟨h2, h⟩ := bif_some h
    obtain ⟨h3, h⟩ := bif_some h
    cases h
    refine ⟨hE, fun α w vs H hargs R hR => ?_⟩
    have H' : HR α ⟨s.heap, s.next, ⟨s.next.nat, s.k.tape, s.k.script, s.k.base⟩⟩ w := ⟨H.sym, Nat.le_refl _, H.live, H.inj, H.fresh, H.tp, fun b o hb => ⟨(H.base.1 b o hb).1, Nat.lt_of_lt_of_le (H.base.1 b o hb).2 H.low⟩, H.base.2⟩
    refine hC α w vs H' hargs R fun x t hm β v w' k1 k2 k3 k4 => ?_
    have hx : x = p.1 := by
      rcases List.mem_cons.1 hm with e | hm
      · rw [← e]
      · exact sameAll_ok h3 _ hm
    subst hx
    obtain ⟨q1, q2⟩ := H.frozen k3
    exact hR p.1 s (List.mem_singleton.2 rfl) α v w' (litV_ok h2 k1) q1 q2 (KS.refl _)
/-- hooks first, then the body -/
def cfX (P : Program) (T : TB) (hook : CallF) (sb : FuncId → Bool) (rec : RecC) : CallF := fun g args s =>
  match hook g args s with
  | some outs => some outs
  | none => match sb g with
    | true => sandX (fnX P T rec g args) s
    | false => fnX P T rec g args s
def runZ : RecC := fun _ _ _ => none
def runS (P : Program) (T : TB) (hook : CallF) (sb : FuncId → Bool) (n : Nat) (rec : RecC) : RecC := bodyX P (recT T) (cfX P T hook sb rec) n rec
def runX (P : Program) (T : TB) (hook : CallF) (sb : FuncId → Bool) (n : Nat) : RecC :=
  Nat.rec (motive := fun _ => RecC) runZ (fun n rec => runS P T hook sb n rec) n
theorem cfX_ok {T : TB} (hT : T.OK P) {hook : CallF} (hh : hook.OK P) (sb : FuncId → Bool) {rec : RecC} (hr : rec.OK P) : (cfX P T hook sb rec).OK P := fun g args s outs h => by
  unfold cfX at h
  split at h
  · rename_i ho
    cases h
    exact hh g args s _ ho
  · split at h
    · exact sandX_ok (fun s outs h => fnX_ok hT hr h) h
    · exact fnX_ok hT hr h
theorem runX_ok (hm : P.follows .mixedOrders = true) {T : TB} (hT : T.OK P) {hook : CallF} (hh : hook.OK P) (sb : FuncId → Bool) : ∀ n, (runX P T hook sb n).OK P
  | 0 => fun c f s outs _ h => by cases h
  | n + 1 => fun c f s outs hc h => bodyX_ok hm (recT_ok hT) (cfX_ok hT hh sb (runX_ok hm hT hh sb n)) (runX_ok hm hT hh sb n) hc h
end
end Go.Proofs.YtbddollbjajcnaaGreat
