/- The operations of such a region, one law a kind; bytes as a string. -/
import Derived.Test.YtkeiffccllfkpaaRegion
namespace Go.Proofs.Ytkeiffccllfkpaa
open Go.RowKit

/-- bytes as a string -/
def bs (l : List Nat) : ByteArray := ⟨(l.map fun n => UInt8.ofNat n).toArray⟩
theorem bs_push (l : List Nat) (r : ByteArray) : (l.map fun n : Nat => (n : Int)).foldl (fun r n => r.push (UInt8.ofNat n.toNat)) r = ⟨r.data ++ (l.map fun n => UInt8.ofNat n).toArray⟩ := by
  induction l generalizing r with
  | nil => simp
  | cons a l ih =>
    simp only [List.map_cons, List.foldl_cons, ih]
    congr 1
    apply Array.ext'
    simp [ByteArray.push]
theorem bs_size (l : List Nat) : (bs l).size = l.length := by simp [bs, ByteArray.size]
theorem bs_append (a b : List Nat) : bs a ++ bs b = bs (a ++ b) := by
  apply ByteArray.ext
  simp [bs]
theorem strCells_bs (l : List Nat) (h : ∀ b ∈ l, b < 256) : Lib.strCells (bs l) = bv l := by
  unfold Lib.strCells bs bv
  simp only [List.map_map]
  refine List.map_congr_left fun b hb => ?_
  have := h b hb
  simp
  omega
theorem bs_inj {a b : List Nat} (ha : ∀ x ∈ a, x < 256) (hb : ∀ x ∈ b, x < 256) (h : bs a = bs b) : a = b := by
  have h1 : a.map (fun n => UInt8.ofNat n) = b.map fun n => UInt8.ofNat n := by
    have := congrArg (fun s => s.data.toList) h
    simpa [bs] using this
  have h2 := congrArg (List.map UInt8.toNat) h1
  simp only [List.map_map] at h2
  have e : ∀ l : List Nat, (∀ x ∈ l, x < 256) → l.map (UInt8.toNat ∘ fun n => UInt8.ofNat n) = l := by
    intro l hl
    conv => rhs; rw [← List.map_id l]
    refine List.map_congr_left fun x hx => ?_
    have := hl x hx
    simp
    omega
  rwa [e a ha, e b hb] at h2

theorem run_conv {P : Program} (src dst e : TypeId) (hs : P.underlying src = some (.slice e)) (he : P.underlying e = some (.int .u8)) (hd : P.underlying dst = some .string) {w : World} {v : Value} {l : List Nat} (h : Sl w 1 v l.length (bv l)) :
    (convert src dst v).run P w = .ok (.string (bs l)) w := by
  obtain ⟨hl, ao, cap, rfl, h1, h2, h3, h4⟩ := h
  rw [run_convert_bytes_string w src dst e _ _ _ hs he hd]
  cases ao with
  | none =>
    have : l.length = 0 := by have := h3 rfl; omega
    obtain rfl := List.eq_nil_of_length_eq_zero this
    rfl
  | some a =>
    obtain ⟨b, off, spot⟩ := a
    obtain ⟨hsp, hc⟩ := h4 _ rfl
    simp at hsp
    subst hsp
    have hlc := run_loadCells_list (P := P) w ⟨b, off, none⟩ (bv l) (fun j u hu => by rw [Addr.add_lit]; exact hc j u hu)
    rw [bv_length] at hlc
    have := run_bytesToString (P := P) w ⟨b, off, none⟩ l.length cap (l.map fun n : Nat => (n : Int)) (by rw [hlc]; simp [bv])
    rw [this, bs_push]
    simp [bs]

def Ob (P : Program) (ops : Array Oper) (L : List Sp) (n : Nat) (w0 : World) (o : Oper) : Prop :=
  ∀ (a : Act) w, w0.grownBy w none → (∀ t ∈ o.looksAt ops, t < n → At L t w (a.tmps.getD t undef)) → a.tmps.size = n →
    OpSays P ops o a w fun v w' => w.grownBy w' none ∧ ∀ d, o.dst = some d → At L d w' v
def ObAll (P : Program) (ops : Array Oper) (L : List Sp) (n : Nat) (w0 : World) : List Oper → Prop
  | [] => True
  | o :: l => Ob P ops L n w0 o ∧ ObAll P ops L n w0 l
theorem ObAll.at {P : Program} {ops : Array Oper} {L : List Sp} {n : Nat} {w0 : World} {l : List Oper} (h : ObAll P ops L n w0 l) : ∀ (i : Nat) (o : Oper), l[i]? = some o → Ob P ops L n w0 o := by
  induction l with
  | nil => intro i o h; simp at h
  | cons x l ih =>
    intro i o hi
    cases i with
    | zero => simp at hi; subst hi; exact h.1
    | succ i => exact ih h.2 i o (by simpa using hi)

/-- the slots ahead of the region: those that an operation writes are passed over -/
def InitP (w : World) : List Sp → List Value → List Bool → Prop
  | s :: L, v :: l, b :: bs => (b = true ∨ s.on w v) ∧ InitP w L l bs
  | _, _, _ => True
theorem InitP.at {w : World} : ∀ {L : List Sp} {l : List Value} {m : List Bool}, InitP w L l m → ∀ t, t < L.length → t < l.length → t < m.length → m.getD t false = true ∨ At L t w (l.getD t undef)
  | [], _, _, _, t, h, _, _ => by simp at h
  | _ :: _, [], _, _, t, _, h, _ => by simp at h
  | _ :: _, _ :: _, [], _, t, _, _, h => by simp at h
  | s :: L, v :: l, b :: bs, h, 0, _, _, _ => h.1
  | s :: L, v :: l, b :: bs, h, t + 1, h1, h2, h3 => InitP.at h.2 t (by simpa using h1) (by simpa using h2) (by simpa using h3)
/-- which slots a region writes -/
def dstsB (ops : List Oper) (n : Nat) : List Bool := (List.range n).map fun t => ops.any fun o => o.dst == some t

theorem region_list {P : Program} {Q : Exit → Act → World → Prop} {id : Nat} {ops : List Oper} {l0 : List Value} {ds : List Deferred} {w0 : World} (hm : P.follows .mixedOrders = true) (L : List Sp) (m : List Bool)
    (hB : regB ops.toArray L.length = true) (hm2 : dstsB ops L.length = m) (hn : l0.length = L.length)
    (h0 : InitP w0 L l0 m) (ob : ObAll P ops.toArray L L.length w0 ops)
    (hQ : ∀ a w, w0.grownBy w none → a.defers = ds → a.tmps.size = L.length → (∀ t, t < L.length → At L t w (a.tmps.getD t undef)) → Q .normal a w) :
    (Code.region id ops.toArray true).wp P Q ⟨l0.toArray, ds⟩ w0 := by
  refine region_rel hm L.length L (by simpa using hn) hB ?_ (fun i o hi => ob.at i o (by simpa using hi)) hQ
  intro t ht hnd
  have hml : m.length = L.length := by rw [← hm2]; simp [dstsB]
  rcases h0.at t ht (by omega) (by omega) with h | h
  · exfalso
    rw [← hm2] at h
    simp only [dstsB, List.getD_eq_getElem?_getD, List.getElem?_map, List.getElem?_range ht, Option.map_some, Option.getD_some, List.any_eq_true, beq_iff_eq] at h
    obtain ⟨o, ho, hd⟩ := h
    obtain ⟨i, hi, rfl⟩ := List.getElem_of_mem ho
    exact hnd i ops[i] (by simp) hd
  · simpa [List.getD_eq_getElem?_getD] using h

/-- a guard that says yes -/
def GOK (ops : Array Oper) (L : List Sp) (n : Nat) : Option (Nat × Bool) → Prop
  | none => True
  | some (g, b) => ∃ t, (ops[g]?).bind (·.dst) = some t ∧ t < n ∧ ∀ w v, At L t w v → v = .bool b
theorem GOK.wanted {ops : Array Oper} {L : List Sp} {n : Nat} {o : Oper} {a : Act} {w : World} (h : GOK ops L n o.guard) (hl : ∀ t ∈ o.looksAt ops, t < n → At L t w (a.tmps.getD t undef)) (hs : a.tmps.size = n) :
    Region.wanted o (yielded ops a.tmps) = true := by
  unfold Region.wanted
  cases hg : o.guard with
  | none => rfl
  | some p =>
    obtain ⟨g, b⟩ := p
    rw [hg] at h
    obtain ⟨t, ht, htn, hv⟩ := h
    have hv := hv w _ (hl t (by simp [Oper.looksAt, hg, ht]) htn)
    have htl : t < a.tmps.size := hs ▸ htn
    rw [Array.getD_eq_getD_getElem?, Array.getElem?_eq_getElem htl, Option.getD_some] at hv
    simp [yielded, ht, Array.getElem?_eq_getElem htl, hv]

/-- an operand whose value is known to the letter -/
def Opd (L : List Sp) (F : List Value) (n : Nat) : Operand → Prop
  | .tmp t => t < n ∧ ∀ w v, At L t w v → v = F.getD t undef
  | _ => True
section
variable {P : Program} {ops : Array Oper} {L : List Sp} {n : Nat} {w0 : World} {o : Oper}
theorem ob_run (hg : GOK ops L n o.guard) (h : ∀ (a : Act) w, w0.grownBy w none → (∀ t ∈ o.looksAt ops, t < n → At L t w (a.tmps.getD t undef)) → a.tmps.size = n → ∃ v, (execOp a.eval o).run P w = .ok (.value v) w ∧ ∀ d, o.dst = some d → At L d w v) : Ob P ops L n w0 o := by
  intro a w hw hl hs
  unfold OpSays
  rw [if_pos (hg.wanted hl hs)]
  obtain ⟨v, hr, hv⟩ := h a w hw hl hs
  rw [hr]
  exact ⟨World.grownBy.refl _ _, hv⟩
theorem ob_exact (F : List Value) (v : Value) (d : Nat) (hd : o.dst = some d) (hv : ∀ w, At L d w v) (hg : GOK ops L n o.guard) (hsel : ∀ cs b, o.op ≠ .select cs b) (hρ : ∀ x ∈ o.op.operands.toList, Opd L F n x)
    (hrun : ∀ w, w0.grownBy w none → (execOp (Act.eval ⟨F.toArray, []⟩) o).run P w = .ok (.value v) w) : Ob P ops L n w0 o := by
  refine ob_run hg fun a w hw hl hs => ⟨v, ?_, fun d' hd' => ?_⟩
  · rw [execOp_congr (ρ' := Act.eval ⟨F.toArray, []⟩) o hsel ?_]
    · exact hrun w hw
    · intro x hx
      have hx' := hρ x (by simpa using hx)
      cases x with
      | tmp t =>
        have := hx'.2 w _ (hl t (by simp only [Oper.looksAt, List.mem_append, List.mem_filterMap]; exact .inl ⟨.tmp t, by simpa using hx, rfl⟩) hx'.1)
        simp only [Act.eval]
        rw [this]
        simp [List.getD_eq_getElem?_getD]
      | _ => rfl
  · rw [hd] at hd'
    obtain rfl := Option.some.inj hd'
    exact hv w
/-- what is handed on as it is -/
theorem ob_move (s d : Nat) (ho : o.op = .move (.tmp s)) (hd : o.dst = some d) (hs : s < n) (hg : GOK ops L n o.guard) (h : ∀ w v, At L s w v → At L d w v) : Ob P ops L n w0 o := by
  refine ob_run hg fun a w hw hl hsz => ⟨a.tmps.getD s undef, by simp [execOp, ho, Act.eval], fun d' hd' => ?_⟩
  rw [hd] at hd'
  obtain rfl := Option.some.inj hd'
  exact h w _ (hl s (by simp [Oper.looksAt, ho, Op.operands]) hs)
theorem ob_assign (s d : Nat) (ho : o.op = .assign (.tmp s)) (hd : o.dst = some d) (hs : s < n) (hg : GOK ops L n o.guard) (h : ∀ w v, At L s w v → At L d w v) : Ob P ops L n w0 o := by
  refine ob_run hg fun a w hw hl hsz => ⟨a.tmps.getD s undef, by simp [execOp, ho, Act.eval], fun d' hd' => ?_⟩
  rw [hd] at hd'
  obtain rfl := Option.some.inj hd'
  exact h w _ (hl s (by simp [Oper.looksAt, ho, Op.operands]) hs)
/-- bytes to a string -/
theorem ob_conv (s d : Nat) (src dst e : TypeId) (h1 : P.underlying src = some (.slice e)) (h2 : P.underlying e = some (.int .u8)) (h3 : P.underlying dst = some .string) (l : List Nat)
    (ho : o.op = .convert src dst (.tmp s)) (hd : o.dst = some d) (hs : s < n) (hg : GOK ops L n o.guard) (h : ∀ w v, w0.grownBy w none → At L s w v → Sl w 1 v l.length (bv l)) (hv : ∀ w, At L d w (.string (bs l))) : Ob P ops L n w0 o := by
  refine ob_run hg fun a w hw hl hsz => ⟨.string (bs l), ?_, fun d' hd' => ?_⟩
  · have := run_conv (P := P) src dst e h1 h2 h3 (h w _ hw (hl s (by simp [Oper.looksAt, ho, Op.operands]) hs))
    simp [execOp, ho, Act.eval]
    simp at this
    simp [this, Result.andThen]
  · rw [hd] at hd'
    obtain rfl := Option.some.inj hd'
    exact hv w
/-- a call of a function by its number, its arguments known to the letter -/
theorem ob_call (F : List Value) (f : Nat) (d : Nat) (args : Array Operand) (tys : Array TypeId) (ho : o.op = .call { callee := .value (.func f), args := args, argTypes := tys }) (hd : o.dst = some d) (hg : GOK ops L n o.guard)
    (hρ : ∀ x ∈ args.toList, Opd L F n x)
    (hc : ∀ w, w0.grownBy w none → Calls P f (args.map (Act.eval ⟨F.toArray, []⟩)) w fun e w' => ∃ v, e = .returned v ∧ w.grownBy w' none ∧ At L d w' v)
    (hrun : ∀ (av : Array Value) w, ((Deferred.ofValue (.func (.func f) #[] #[]) av).run P w).andThen (fun a w' => (invoke a.target a.args).run P w') = .ok (.enter f av) w) : Ob P ops L n w0 o := by
  intro a w hw hl hsz
  unfold OpSays
  rw [if_pos (hg.wanted hl hsz)]
  have hargs : args.map a.eval = args.map (Act.eval ⟨F.toArray, []⟩) := by
    refine Array.map_congr_left fun x hx => ?_
    have hx' := hρ x (by simpa using hx)
    cases x with
    | tmp t =>
      have := hx'.2 w _ (hl t (by simp only [Oper.looksAt, List.mem_append, List.mem_filterMap]; exact .inl ⟨.tmp t, by simp [ho, Op.operands, Call.operands]; exact hx, rfl⟩) hx'.1)
      simp only [Act.eval]
      rw [this]
      simp [List.getD_eq_getElem?_getD]
    | _ => rfl
  have hr : (execOp a.eval o).run P w = .ok (.enter f (args.map (Act.eval ⟨F.toArray, []⟩))) w := by
    simp only [execOp, ho, resolve, Act.eval, Sem.run_bind]
    have h1 := hrun (args.map a.eval) w
    rw [hargs] at h1
    first
      | exact h1
      | (rw [hargs]; exact h1)
  rw [hr]
  exact (hc w hw).mono fun e w' ⟨v, he, hg', hv⟩ => ⟨v, he, hg', fun d' hd' => by rw [hd] at hd'; obtain rfl := Option.some.inj hd'; exact hv⟩
end
end Go.Proofs.Ytkeiffccllfkpaa
