/- The evaluator: regions in order, code, functions. -/
import Derived.Test.YtbddollbjajcnaaGreatX30
import Derived.LoopN
namespace Go.Proofs.YtbddollbjajcnaaGreat
open Go
noncomputable section
set_option linter.unusedVariables false
set_option linter.unusedSimpArgs false
variable {P : Program}
def bindL {A B : Type} (g : A → Option (List B)) : List A → Option (List B)
  | [] => some []
  | a :: l => match l with
    | [] => g a
    | _ :: _ => ob (g a) fun x => ob (bindL g l) fun y => some (List.append x y)
theorem bindL_ok {A B : Type} {g : A → Option (List B)} : ∀ {l : List A} {r : List B}, bindL g l = some r → ∀ a ∈ l, ∃ x, g a = some x ∧ ∀ b ∈ x, b ∈ r
  | [], _, _, a, h => by cases h
  | [b], r, h, a, hm => by
    rcases List.mem_singleton.1 hm with rfl
    exact ⟨r, h, fun _ h => h⟩
  | b :: c :: l, r, h, a, hm => by
    obtain ⟨x, h1, h⟩ := ob_some h
    obtain ⟨y, h2, h⟩ := ob_some h
    cases h
    rcases List.mem_cons.1 hm with rfl | hm
    · exact ⟨x, h1, fun e he => List.mem_append_left _ he⟩
    · obtain ⟨z, h3, h4⟩ := bindL_ok h2 a hm
      exact ⟨z, h3, fun e he => List.mem_append_right _ (h4 e he)⟩
theorem FR1.same {α : XM} {f : XF} {a b : Act} (k : FR1 α f a) (h : b.tmps = a.tmps) : FR1 α f b := ⟨by rw [h]; exact k.size, k.small, fun t v ht hv => by rw [h]; exact k.val t v ht hv⟩
theorem FR1.drop {α : XM} {f g : XF} {a : Act} (k : FR1 α f a) {d : Option Tmp} (hp : dropX f d = some g) : FR1 α g (a.put d undef) := k.put (x := .tup []) ⟨[], .nil, rfl⟩ hp
abbrev Cont := XF → XS → Option (List (XF × XS))
def regN : Cont := fun f s => some [(f, s)]
def regC (P : Program) (rc : FuncId → Bool) (cf : CallF) (ops : List Oper) (o : Oper) (next : Cont) : Cont := fun f s =>
  ob (wantX ops f o) fun w => match w with
    | false => ob (dropX f o.dst) fun g => next g s
    | true => ob (stepX P rc cf f s o) fun outs => bindL (fun p => ob (f.put o.dst p.1) fun g => next g p.2) outs
def regX (P : Program) (rc : FuncId → Bool) (cf : CallF) (ops : List Oper) (l : List Oper) : Cont :=
  List.rec (motive := fun _ => Cont) regN (fun o _ next => regC P rc cf ops o next) l
theorem regX_nil {rc : FuncId → Bool} {cf : CallF} {ops : List Oper} {f : XF} {s : XS} : regX P rc cf ops [] f s = some [(f, s)] := rfl
theorem regX_cons {rc : FuncId → Bool} {cf : CallF} {ops : List Oper} {o : Oper} {r : List Oper} {f : XF} {s : XS} : regX P rc cf ops (o :: r) f s = ob (wantX ops f o) fun w => match w with
    | false => ob (dropX f o.dst) fun g => regX P rc cf ops r g s
    | true => ob (stepX P rc cf f s o) fun outs => bindL (fun p => ob (f.put o.dst p.1) fun g => regX P rc cf ops r g p.2) outs := rfl
theorem regX_ok {rc : FuncId → Bool} (hrc : RecF P rc) {cf : CallF} (hcf : cf.OK P) {ops : Array Oper} {Q : Exit → Act → World → Prop} : ∀ (l : List Oper) (f : XF) (s : XS) (outs : List (XF × XS)), regX P rc cf ops.toList l f s = some outs → ∀ (α : XM) (a : Act) (w : World), HR α s w → FR1 α f a → DF P a →
    (∀ g t, (g, t) ∈ outs → ∀ β a' w', HR β t w' → GR α s w β t w' → KS s.k t.k → FR1 β g a' → DF P a' → Q .normal a' w') → wpList P ops Q l a w
  | [], f, s, outs, h, α, a, w, H, F, D, hq => by
    rw [regX_nil] at h
    cases h
    exact hq f s (List.mem_singleton.2 rfl) α a w H (GR.refl _ _ _) (KS.refl _) F D
  | o :: r, f, s, outs, h, α, a, w, H, F, D, hq => by
    rw [regX_cons] at h
    obtain ⟨b, h1, h⟩ := ob_some h
    have hw := want_ok F h1
    unfold wpList
    cases b with
    | false =>
      rw [if_neg (by rw [hw]; simp)]
      obtain ⟨g, h2, h⟩ := ob_some h
      exact regX_ok hrc hcf r g s outs h α _ w H (F.drop h2) (D.put o.dst undef) hq
    | true =>
      rw [if_pos hw]
      obtain ⟨os, h2, h⟩ := ob_some h
      refine .inl (stepX_ok hrc hcf h2 α a w H F D _ _ fun x t hm β v a' w' e0 e1 e2 e3 e4 e5 => ?_)
      obtain ⟨z, h3, h4⟩ := bindL_ok h (x, t) hm
      obtain ⟨g, h5, h6⟩ := ob_some h3
      refine regX_ok hrc hcf r g t z h6 β a' w' e3 (((F.mono e4.le).put e2 h5).same e0) e1 fun g' t' hm' γ b w2 k1 k2 k3 k4 k5 => hq g' t' (h4 _ hm') γ b w2 k1 (e4.trans k2) (e5.trans k3) k4 k5
inductive XE where
  | normal
  | exit (id : Nat)
  | ret
def XE.to : XE → Exit
  | .normal => .normal
  | .exit id => .exit id
  | .ret => .ret
abbrev Outs := List (XE × XF × XS)
def normals : List (XF × XS) → Outs
  | [] => []
  | (f, s) :: l => (.normal, f, s) :: normals l
theorem normals_mem {f : XF} {s : XS} : ∀ {l : List (XF × XS)}, (f, s) ∈ l → (XE.normal, f, s) ∈ normals l
  | [], h => by cases h
  | (g, t) :: l, h => by
    rcases List.mem_cons.1 h with e | h
    · cases e; exact List.mem_cons_self
    · exact List.mem_cons_of_mem _ (normals_mem h)
def blockX (id : Nat) : Outs → Outs
  | [] => []
  | (e, p) :: l => (match e with
    | .exit id' => bif Nat.beq id' id then (.normal, p) else (.exit id', p)
    | e => (e, p)) :: blockX id l
def thenX (next : XF → XS → Option Outs) (p : XE × XF × XS) : Option Outs :=
  match p.1 with
  | .normal => next p.2.1 p.2.2
  | _ => some [p]
def loopX (body : XF → XS → Option Outs) : Nat → XF → XS → Option Outs
  | 0, _, _ => none
  | n + 1, f, s => ob (body f s) (bindL (thenX (loopX body n)))
def okC : Code → Bool
  | .region _ ops draw => match draw with
    | true => statOK ops.toList
    | false => true
  | .seq a b => bif okC a then okC b else false
  | .cond _ a b => bif okC a then okC b else false
  | .block _ b => okC b
  | .loop b => okC b
  | _ => true
abbrev RecC := Code → XF → XS → Option Outs
def bodyX (P : Program) (rc : FuncId → Bool) (cf : CallF) (n : Nat) (rec : RecC) (c : Code) (f : XF) (s : XS) : Option Outs :=
  match c with
  | .skip => some [(.normal, f, s)]
  | .region _ ops draw => match draw with
    | false => match ops.toList with
      | l => ob (regX P rc cf l l f s) fun r => some (normals r)
    | true => ob (drawX P (oneX P cf) ops.toList f s) fun p => some [(.normal, p.1, p.2)]
  | .seq a b => ob (rec a f s) (bindL (thenX (rec b)))
  | .cond c a b => ob (evX f c) fun v => match v with
    | .one (.bool t) => match t with
      | true => rec a f s
      | false => rec b f s
    | _ => none
  | .block id b => ob (rec b f s) fun l => some (blockX id l)
  | .loop b => loopX (rec b) n f s
  | .exit id => some [(.exit id, f, s)]
  | .ret => some [(.ret, f, s)]
  | .label _ => some [(.normal, f, s)]
  | _ => none
def CodeOK (P : Program) (c : Code) (f : XF) (s : XS) (outs : Outs) : Prop :=
  ∀ (α : XM) (a : Act) (w : World), HR α s w → FR1 α f a → DF P a → ∀ Q : Exit → Act → World → Prop,
    (∀ e g t, (e, g, t) ∈ outs → ∀ β a' w', HR β t w' → GR α s w β t w' → KS s.k t.k → FR1 β g a' → DF P a' → Q e.to a' w') → c.wp P Q a w
def RecC.OK (P : Program) (rec : RecC) : Prop := ∀ c f s outs, okC c = true → rec c f s = some outs → CodeOK P c f s outs
theorem CodeOK.one {c : Code} {f : XF} {s : XS} {e : XE} (h : ∀ (Q : Exit → Act → World → Prop) a w, Q e.to a w → c.wp P Q a w) : CodeOK P c f s [(e, f, s)] := fun α a w H F D Q hq =>
  h Q a w (hq e f s (List.mem_singleton.2 rfl) α a w H (GR.refl _ _ _) (KS.refl _) F D)
theorem CodeOK.then {x : Code} {f : XF} {s : XS} {outs : Outs} (hx : CodeOK P x f s outs) {next : XF → XS → Option Outs} {res : Outs} (h : bindL (thenX next) outs = some res) {α : XM} {a : Act} {w : World} (H : HR α s w) (F : FR1 α f a) (D : DF P a) {Q : Exit → Act → World → Prop} {K : Act → World → Prop}
    (hq : ∀ e g t, (e, g, t) ∈ res → ∀ β a' w', HR β t w' → GR α s w β t w' → KS s.k t.k → FR1 β g a' → DF P a' → Q e.to a' w')
    (hK : ∀ g t rs, next g t = some rs → ∀ β a' w', HR β t w' → GR α s w β t w' → KS s.k t.k → FR1 β g a' → DF P a' → (∀ e g' t', (e, g', t') ∈ rs → ∀ γ b w2, HR γ t' w2 → GR β t w' γ t' w2 → KS t.k t'.k → FR1 γ g' b → DF P b → Q e.to b w2) → K a' w') : x.wp P (Exit.then K Q) a w := by
  refine hx α a w H F D _ fun e g t hm β a' w' k1 k2 k3 k4 k5 => ?_
  obtain ⟨z, h1, h2⟩ := bindL_ok h (e, g, t) hm
  cases e with
  | normal =>
    exact hK g t z h1 β a' w' k1 k2 k3 k4 k5 fun e' g' t' hm' γ b w2 q1 q2 q3 q4 q5 => hq e' g' t' (h2 _ hm') γ b w2 q1 (k2.trans q2) (k3.trans q3) q4 q5
  | exit id =>
    have : z = [(XE.exit id, g, t)] := (Option.some.inj h1).symm
    subst this
    exact hq (.exit id) g t (h2 _ (List.mem_singleton.2 rfl)) β a' w' k1 k2 k3 k4 k5
  | ret =>
    have : z = [(XE.ret, g, t)] := (Option.some.inj h1).symm
    subst this
    exact hq .ret g t (h2 _ (List.mem_singleton.2 rfl)) β a' w' k1 k2 k3 k4 k5
theorem blockX_mem {id : Nat} {e : XE} {p : XF × XS} : ∀ {l : Outs}, (e, p) ∈ l → (match e with | .exit id' => (bif Nat.beq id' id then (XE.normal, p) else (XE.exit id', p)) | e => (e, p)) ∈ blockX id l
  | [], h => by cases h
  | (e', p') :: l, h => by
    rcases List.mem_cons.1 h with q | h
    · cases q
      unfold blockX
      exact List.mem_cons_self
    · exact List.mem_cons_of_mem _ (blockX_mem h)
theorem loopX_ok {b : Code} {body : XF → XS → Option Outs} (hb : ∀ f s outs, body f s = some outs → CodeOK P b f s outs) {Q : Exit → Act → World → Prop} : ∀ (n : Nat) (f : XF) (s : XS) (outs : Outs), loopX body n f s = some outs → ∀ (α : XM) (a : Act) (w : World), HR α s w → FR1 α f a → DF P a →
    (∀ e g t, (e, g, t) ∈ outs → ∀ β a' w', HR β t w' → GR α s w β t w' → KS s.k t.k → FR1 β g a' → DF P a' → Q e.to a' w') → Code.rounds P b Q n a w
  | 0, f, s, outs, h, α, a, w, H, F, D, hq => by cases h
  | n + 1, f, s, outs, h, α, a, w, H, F, D, hq => by
    obtain ⟨o1, h1, h2⟩ := ob_some h
    rw [rounds_succ]
    exact (hb f s o1 h1).then h2 H F D hq fun g t rs h3 β a' w' k1 k2 k3 k4 k5 hh => loopX_ok hb n g t rs h3 β a' w' k1 k4 k5 hh
theorem bodyX_ok (hm : P.follows .mixedOrders = true) {rc : FuncId → Bool} (hrc : RecF P rc) {cf : CallF} (hcf : cf.OK P) {n : Nat} {rec : RecC} (hr : rec.OK P) {c : Code} (hc : okC c = true) {f : XF} {s : XS} {outs : Outs} (h : bodyX P rc cf n rec c f s = some outs) : CodeOK P c f s outs := by
  unfold bodyX at h
  split at h
  · cases h; exact CodeOK.one fun Q a w hq => wp_skip hq
  · rename_i id ops draw
    cases draw with
    | false =>
      simp only at h
      obtain ⟨r, h1, h2⟩ := ob_some h
      cases h2
      intro α a w H F D Q hq
      refine wp_region_list ?_
      exact regX_ok hrc hcf ops.toList f s r h1 α a w H F D fun g t hm β a' w' k1 k2 k3 k4 k5 => hq .normal g t (normals_mem hm) β a' w' k1 k2 k3 k4 k5
    | true =>
      simp only at h
      obtain ⟨p, h1, h2⟩ := ob_some h
      cases h2
      intro α a w H F D Q hq
      exact wp_draw (g := p.1) (t := p.2) hm hc (oneX_ok hcf) h1 H F fun β a' w' k1 k2 k3 k4 k5 => hq .normal p.1 p.2 (List.mem_singleton.2 rfl) β a' w' k1 k2 k3 k4 (by unfold DF; rw [k5]; exact D)
  · rename_i x y
    obtain ⟨hx, hy⟩ := bif_false hc
    obtain ⟨o1, h1, h2⟩ := ob_some h
    intro α a w H F D Q hq
    refine wp_seq ?_
    exact (hr x f s o1 hx h1).then h2 H F D hq fun g t rs h3 β a' w' k1 k2 k3 k4 k5 hh => hr y g t rs hy h3 β a' w' k1 k4 k5 Q hh
  · rename_i c' x y
    obtain ⟨hx, hy⟩ := bif_false hc
    obtain ⟨v, h1, h2⟩ := ob_some h
    split at h2
    · rename_i t
      intro α a w H F D Q hq
      have hv : a.eval c' = .bool t := evX_ok F h1
      refine wp_cond hv ?_
      cases t with
      | true => exact hr x f s outs hx h2 α a w H F D Q hq
      | false => exact hr y f s outs hy h2 α a w H F D Q hq
    · cases h2
  · rename_i id b
    obtain ⟨l, h1, h2⟩ := ob_some h
    cases h2
    intro α a w H F D Q hq
    refine wp_block ?_
    refine hr b f s l hc h1 α a w H F D _ fun e g t hm β a' w' k1 k2 k3 k4 k5 => ?_
    have hmem := blockX_mem (id := id) hm
    cases e with
    | normal => exact hq .normal g t hmem β a' w' k1 k2 k3 k4 k5
    | ret => exact hq .ret g t hmem β a' w' k1 k2 k3 k4 k5
    | exit id' =>
      show (if id' = id then Q .normal a' w' else Q (.exit id') a' w')
      simp only at hmem
      cases hb : Nat.beq id' id with
      | true =>
        rw [hb] at hmem
        rw [if_pos (Nat.eq_of_beq_eq_true hb)]
        exact hq .normal g t hmem β a' w' k1 k2 k3 k4 k5
      | false =>
        rw [hb] at hmem
        rw [if_neg (Nat.ne_of_beq_eq_false hb)]
        exact hq (.exit id') g t hmem β a' w' k1 k2 k3 k4 k5
  · rename_i b
    intro α a w H F D Q hq
    exact wp_loop_rounds n (loopX_ok (fun f s outs h => hr b f s outs hc h) n f s outs h α a w H F D hq)
  · cases h; exact CodeOK.one fun Q a w hq => wp_exit hq
  · cases h; exact CodeOK.one fun Q a w hq => wp_ret hq
  · cases h; exact CodeOK.one fun Q a w hq => wp_label hq
  · cases h
end
end Go.Proofs.YtbddollbjajcnaaGreat
