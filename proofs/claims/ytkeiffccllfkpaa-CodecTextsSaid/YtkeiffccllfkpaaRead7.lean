/- The last two regions of read, at whatever type: the value is read again, the rest is cloned, the three results are stored; or zero, nil and the error are. -/
import Derived.Test.YtkeiffccllfkpaaOps2
import Derived.Test.YtkeiffccllfkpaaTy
namespace Go.Proofs.Ytkeiffccllfkpaa
open Go.RowKit

/-- from wz to w: the three result cells at B may have turned, all else that was there stands -/
structure Res3 (wz w : World) (B : Nat) : Prop where
  os : w.os = wz.os
  tape : w.tape = wz.tape
  output : w.output = wz.output
  size : wz.heap.size ≤ w.heap.size
  block : ∀ k, k < wz.heap.size → k ≠ B → k ≠ B + 1 → k ≠ B + 1 + 1 → w.heap[k]? = wz.heap[k]?
theorem Res3.refl (w : World) (B : Nat) : Res3 w w B := ⟨rfl, rfl, rfl, Nat.le_refl _, fun _ _ _ _ _ => rfl⟩
theorem Res3.step {wz w w' : World} {B : Nat} (h : Res3 wz w B) {row : Option Nat} (hg : w.grownBy w' row) (hr : row = none ∨ row = some B ∨ row = some (B + 1) ∨ row = some (B + 1 + 1)) : Res3 wz w' B :=
  ⟨hg.os.trans h.os, hg.tape.trans h.tape, hg.output.trans h.output, Nat.le_trans h.size hg.size, fun k hk h0 h1 h2 =>
    (hg.block k (Nat.lt_of_lt_of_le hk h.size) (by rcases hr with rfl | rfl | rfl | rfl <;> simp <;> omega)).trans (h.block k hk h0 h1 h2)⟩

/-- the region's operations -/
def ops7 (ps : String) (T tS tR tE tP K : Nat) : List Oper := [
  { dst := some 26, op := .load T (.tmp 4), type := T, pos := ps, after := #[], guard := none },
  { dst := some 27, op := .move (.tmp 7), type := tP, pos := ps, after := #[], guard := none },
  { dst := some 28, op := .nilCheck (.tmp 27), type := 0, pos := ps, after := #[{ on := 1, ground := .data }], guard := none },
  { dst := some 29, op := .fieldAddr tR (.tmp 28) 0, type := 0, pos := ps, after := #[{ on := 2, ground := .data }], guard := none },
  { dst := some 30, op := .load tS (.tmp 29), type := tS, pos := ps, after := #[{ on := 3, ground := .data }], guard := none },
  { dst := some 31, op := .call { callee := .value (.func K), args := #[.tmp 30], argTypes := #[tS] }, type := tS, pos := ps, after := #[{ on := 4, ground := .data }], guard := none },
  { dst := none, op := .store T (.tmp 4) (.tmp 26), type := 0, pos := ps, after := #[{ on := 0, ground := .data }, { on := 5, ground := .chain }, { on := 0, ground := .phase }, { on := 1, ground := .textOnly .lateStoresUnsure }, { on := 2, ground := .textOnly .lateStoresUnsure }, { on := 3, ground := .textOnly .lateStoresUnsure }, { on := 4, ground := .textOnly .lateStoresUnsure }, { on := 5, ground := .textOnly .lateStoresUnsure }], guard := none },
  { dst := none, op := .store tS (.tmp 5) (.tmp 31), type := 0, pos := ps, after := #[{ on := 5, ground := .data }, { on := 6, ground := .chain }, { on := 0, ground := .phase }, { on := 1, ground := .phase }, { on := 2, ground := .phase }, { on := 3, ground := .phase }, { on := 4, ground := .phase }, { on := 5, ground := .phase }, { on := 6, ground := .phase }], guard := none },
  { dst := none, op := .store tE (.tmp 6) (.const (.int .i64 0)), type := 0, pos := ps, after := #[{ on := 7, ground := .chain }, { on := 0, ground := .phase }, { on := 1, ground := .phase }, { on := 2, ground := .phase }, { on := 3, ground := .phase }, { on := 4, ground := .phase }, { on := 5, ground := .phase }, { on := 6, ground := .phase }, { on := 7, ground := .phase }], guard := none }]

theorem ops7_reg (ps : String) (T tS tR tE tP K : Nat) : regB (ops7 ps T tS tR tE tP K).toArray 32 = true := by kernel_rfl


def L7 (v1 v3 : Value) (l : List Nat) (l0 : List Value) (R : Nat) (wz : World) (t : Nat) (w : World) (v : Value) : Prop := match t with
  | 26 => v = v1
  | 27 => v = ptr R
  | 28 => v = ptr R
  | 29 => v = ptr R
  | 30 => v = v3
  | 31 => Sl w 1 v l.length (bv l) ∧ (∀ k, v.ownBlock = some k → wz.heap.size ≤ k) ∧ (∃ ao n c, v = .slice ao n c)
  | t => t < 9 → v = l0.getD t undef
def J7 (c1 : Array Value) (T tS tE B : Nat) (wz w : World) : Prop := Res3 wz w B ∧ w.heap[B]? = some (.cells c1 T (0, 0)) ∧ (∃ y, w.heap[B + 1]? = some (.cells #[y] tS (0, 0))) ∧ (∃ y, w.heap[B + 1 + 1]? = some (.cells #[y] tE (0, 0)))
def D7 (tS tE B : Nat) (l : List Nat) (wz : World) (i : Nat) (w : World) : Prop := match i with
  | 7 => ∃ v', w.heap[B + 1]? = some (.cells #[v'] tS (0, 0)) ∧ Sl w 1 v' l.length (bv l) ∧ ∀ k, v'.ownBlock = some k → wz.heap.size ≤ k
  | 8 => w.heap[B + 1 + 1]? = some (.cells #[.int .i64 0] tE (0, 0))
  | _ => True

theorem run_skip {P : Program} {w w' : World} {s : Sem Unit} (h : s.run P w = .ok () w') : (do s; pure Next.skip : Sem Next).run P w = .ok .skip w' := by
  simp only [Sem.run_bind, h, Sem.run_pure, Result.andThen_ok]
set_option maxHeartbeats 1000000 in
theorem read7 {ps : String} {P : Program} {Q : Exit → Act → World → Prop} (hm : P.follows .mixedOrders = true) (T tS tR tE tP K id B R : Nat) (v1 v3 : Value) (cs : List Value) (l : List Nat) (l0 : List Value) (ds : List Deferred) (wz : World)
    (hl0 : l0.length = 32) (h4 : l0.getD 4 undef = ptr B) (h5 : l0.getD 5 undef = ptr (B + 1)) (h6 : l0.getD 6 undef = ptr (B + 1 + 1)) (h7 : l0.getD 7 undef = ptr R)
    (hT : TY P T cs v1) (hS : ∀ ao n c, TY P tS [.slice ao n c] (.slice ao n c)) (hE : ∀ n, TY P tE [.int .i64 n] (.int .i64 n))
    (hB : wz.heap[B]? = some (.cells cs.toArray T (0, 0))) (hB1 : ∃ y, wz.heap[B + 1]? = some (.cells #[y] tS (0, 0))) (hB2 : ∃ y, wz.heap[B + 1 + 1]? = some (.cells #[y] tE (0, 0))) (hR : wz.cell? ⟨R, 0, none⟩ = some v3) (hRB : B + 1 + 1 < R)
    (hs0 : Sl wz 1 v3 l.length (bv l)) (hsb : ∀ k, v3.ownBlock = some k → k < B)
    (hfield : ∀ w, (Instr.fieldAt tR (ptr R) 0).run P w = .ok (ptr R) w)
    (hrun : ∀ (av : Array Value) w, ((Deferred.ofValue (.func (.func K) #[] #[]) av).run P w).andThen (fun a w' => (invoke a.target a.args).run P w') = .ok (.enter K av) w)
    (hclone : ∀ w v, Sl w 1 v l.length (bv l) → Calls P K #[v] w fun e w' => ∃ v', e = .returned v' ∧ Sl w' 1 v' l.length (bv l) ∧ Fresh w w' v')
    (hQ : ∀ a w, Res3 wz w B → a.defers = ds → a.tmps.size = 32 → (∀ t, t < 9 → a.tmps.getD t undef = l0.getD t undef) → w.heap[B]? = some (.cells cs.toArray T (0, 0)) →
      (∃ v', w.heap[B + 1]? = some (.cells #[v'] tS (0, 0)) ∧ Sl w 1 v' l.length (bv l) ∧ ∀ k, v'.ownBlock = some k → wz.heap.size ≤ k) → w.heap[B + 1 + 1]? = some (.cells #[.int .i64 0] tE (0, 0)) → Q .normal a w) :
    (Code.region id (ops7 ps T tS tR tE tP K).toArray true).wp P Q ⟨l0.toArray, ds⟩ wz := by
  have hlen : wz.heap.size > R := block_lt_of_cell hR
  refine region_gen hm 32
    (L7 v1 v3 l l0 R wz) (J7 cs.toArray T tS tE B wz) (D7 tS tE B l wz)
    ⟨⟨rfl, rfl, rfl, Nat.le_refl _, fun _ _ _ _ _ => rfl⟩, hB, hB1, hB2⟩ (by simpa using hl0) (ops7_reg ps T tS tR tE tP K) ?_ ?_ ?_
  · intro t ht hnd
    unfold L7
    split
    · exact absurd rfl (hnd 0 _ rfl)
    · exact absurd rfl (hnd 1 _ rfl)
    · exact absurd rfl (hnd 2 _ rfl)
    · exact absurd rfl (hnd 3 _ rfl)
    · exact absurd rfl (hnd 4 _ rfl)
    · exact absurd rfl (hnd 5 _ rfl)
    · intro _; simp [List.getD_eq_getElem?_getD]
  · have HO : OGAll P (ops7 ps T tS tR tE tP K).toArray (L7 v1 v3 l l0 R wz) (J7 cs.toArray T tS tE B wz) (D7 tS tE B l wz) 32 0 (ops7 ps T tS tR tE tP K) := by
      have keep : ∀ (w w' : World) (row : Option Nat), J7 cs.toArray T tS tE B wz w → w.grownBy w' row → (row = none ∨ row = some B ∨ row = some (B + 1) ∨ row = some (B + 1 + 1)) → ∀ t x, L7 v1 v3 l l0 R wz t w x → L7 v1 v3 l l0 R wz t w' x := by
        intro w w' row hJ hg hr t x hx
        unfold L7 at hx ⊢
        split at hx
        all_goals first | exact hx | skip
        obtain ⟨x1, x2, ao, n, c, rfl⟩ := hx
        refine ⟨x1.kept hg ?_, x2, ao, n, c, rfl⟩
        rcases hr with rfl | rfl | rfl | rfl
        · cases h : (Value.slice ao n c).ownBlock <;> simp
        all_goals
          right
          intro e
          have := x2 _ e
          omega
      have rd : ∀ (a : Act) (w : World) (t : Nat), L7 v1 v3 l l0 R wz t w (a.tmps.getD t undef) → L7 v1 v3 l l0 R wz t w (a.eval (.tmp t)) := fun _ _ _ h => h
      have dk : ∀ (w w' : World) (b : Nat), w.grownBy w' (some b) → b < R → ∀ j, (j = 7 → b ≠ B + 1) → (j = 8 → b ≠ B + 1 + 1) → D7 tS tE B l wz j w → D7 tS tE B l wz j w' := by
        intro w w' b hg hb j h7 h8 hD
        unfold D7 at hD ⊢
        split at hD
        · obtain ⟨v'', d1, d2, d3⟩ := hD
          have := h7 rfl
          exact ⟨v'', row_of hg d1 (by simp; omega), d2.kept hg (.inr fun e => by have := d3 _ e; omega), d3⟩
        · have := h8 rfl
          exact row_of hg hD (by simp; omega)
        · trivial
      refine ⟨?_, ?_, ?_, ?_, ?_, ?_, ?_, ?_, ?_, trivial⟩
      · refine og_run trivial (fun _ _ => trivial) fun a w hJ hl hs => ⟨v1, ?_, fun d hd => by cases hd; rfl⟩
        have e4 : a.eval (.tmp 4) = ptr B := (rd a w 4 (hl 4 (by simp [Oper.looksAt, Op.operands]) (by decide)) (by decide)).trans h4
        simp only [execOp, e4, Sem.run_bind, Sem.run_pure, hT.loads hJ.2.1, Result.andThen]
      · refine og_run trivial (fun _ _ => trivial) fun a w hJ hl hs => ⟨ptr R, ?_, fun d hd => by cases hd; rfl⟩
        have e7 : a.eval (.tmp 7) = ptr R := (rd a w 7 (hl 7 (by simp [Oper.looksAt, Op.operands]) (by decide)) (by decide)).trans h7
        simp only [execOp, e7, Sem.run_pure]
      · refine og_run trivial (fun _ _ => trivial) fun a w hJ hl hs => ⟨ptr R, ?_, fun d hd => by cases hd; rfl⟩
        have e7 : a.eval (.tmp 27) = ptr R := rd a w 27 (hl 27 (by simp [Oper.looksAt, Op.operands]) (by decide))
        simp only [execOp, e7, ptr, Sem.run_pure]
      · refine og_run trivial (fun _ _ => trivial) fun a w hJ hl hs => ⟨ptr R, ?_, fun d hd => by cases hd; rfl⟩
        have e7 : a.eval (.tmp 28) = ptr R := rd a w 28 (hl 28 (by simp [Oper.looksAt, Op.operands]) (by decide))
        simp only [execOp, e7, Sem.run_bind, Sem.run_pure, hfield w, Result.andThen]
      · refine og_run trivial (fun _ _ => trivial) fun a w hJ hl hs => ⟨v3, ?_, fun d hd => by cases hd; rfl⟩
        have e7 : a.eval (.tmp 29) = ptr R := rd a w 29 (hl 29 (by simp [Oper.looksAt, Op.operands]) (by decide))
        have hc : w.cell? ⟨R, 0, none⟩ = some v3 := (World.cell?_of_block (w := wz) (a := ⟨R, 0, none⟩) (hJ.1.block R hlen (by omega) (by omega) (by omega))).trans hR
        obtain ⟨ao, cap, rfl, _, _⟩ := hs0.shape
        have := (hS ao l.length cap).load w R 0 (fun j v hj => by
          cases j with
          | zero => simp at hj; subst hj; exact hc
          | succ j => simp at hj)
        simp only [execOp, e7, Instr.loadAt, ptr, Instr.sureAddr, Sem.run_bind, Sem.run_pure, Result.andThen_ok, this]
      · refine og_call K _ _ rfl trivial hrun fun a w hJ hl hs => ?_
        have e7 : a.eval (.tmp 30) = v3 := rd a w 30 (hl 30 (by simp [Oper.looksAt, Op.operands, Call.operands]) (by decide))
        have hsw : Sl w 1 v3 l.length (bv l) := by
          obtain ⟨q1, ao, cap, q2, q3, q4, q5, q6⟩ := hs0
          refine ⟨q1, ao, cap, q2, q3, q4, q5, fun ad had => ?_⟩
          obtain ⟨g1, g2⟩ := q6 ad had
          refine ⟨g1, fun j u hu => ?_⟩
          have hc := g2 j u hu
          have hb := hsb ad.block (by rw [q2, had]; rfl)
          exact (World.cell?_of_block (w := wz) (a := ⟨ad.block, ad.off + j, none⟩) (hJ.1.block _ (block_lt_of_cell hc) (by simp; omega) (by simp; omega) (by simp; omega))).trans hc
        have ea : Array.map a.eval #[Operand.tmp 30] = #[v3] := by simp only [List.map_toArray, List.map_cons, List.map_nil, e7]
        rw [ea]
        refine (hclone w v3 hsw).mono ?_
        rintro e w' ⟨v', rfl, hs', hf⟩
        refine ⟨v', rfl, ⟨hJ.1.step hf.1 (.inl rfl), row_of hf.1 hJ.2.1 (by simp [Value.ownBlock]), ?_, ?_⟩, keep w w' none hJ hf.1 (.inl rfl), ?_, trivial, fun d hd => ?_⟩
        · obtain ⟨y, hy⟩ := hJ.2.2.1; exact ⟨y, row_of hf.1 hy (by simp [Value.ownBlock])⟩
        · obtain ⟨y, hy⟩ := hJ.2.2.2; exact ⟨y, row_of hf.1 hy (by simp [Value.ownBlock])⟩
        · intro j hj hD
          unfold D7 at hD ⊢
          split at hD
          · obtain ⟨v'', d1, d2, d3⟩ := hD
            exact ⟨v'', row_of hf.1 d1 (by simp [Value.ownBlock]), d2.kept hf.1 (by cases h : v''.ownBlock <;> simp [Value.ownBlock]), d3⟩
          · exact row_of hf.1 hD (by simp [Value.ownBlock])
          · trivial
        · cases hd
          obtain ⟨ao, cap, rfl, _, _⟩ := hs'.shape
          refine ⟨hs', fun k hk => ?_, ao, _, cap, rfl⟩
          rcases hf.2 k hk with h | h
          · simp [Value.ownBlock] at h
          · exact Nat.le_trans hJ.1.size h
      · refine og_skip trivial rfl fun a w hJ hl hs => ?_
        have e4 : a.eval (.tmp 4) = ptr B := (rd a w 4 (hl 4 (by simp [Oper.looksAt, Op.operands]) (by decide)) (by decide)).trans h4
        have e26 : a.eval (.tmp 26) = v1 := rd a w 26 (hl 26 (by simp [Oper.looksAt, Op.operands]) (by decide))
        obtain ⟨s1, s2, s3⟩ := hT.stores hJ.2.1 (by simp)
        refine ⟨_, by simp only [execOp, e4, e26]; exact run_skip s1, ⟨hJ.1.step s2 (.inr (.inl rfl)), s3, ?_, ?_⟩, keep w _ _ hJ s2 (.inr (.inl rfl)), fun j hj => dk w _ B s2 (by omega) j (fun _ => by omega) (fun _ => by omega), trivial⟩
        · obtain ⟨y, hy⟩ := hJ.2.2.1; exact ⟨y, row_of s2 hy (by simp)⟩
        · obtain ⟨y, hy⟩ := hJ.2.2.2; exact ⟨y, row_of s2 hy (by simp; omega)⟩
      · refine og_skip trivial rfl fun a w hJ hl hs => ?_
        have e5 : a.eval (.tmp 5) = ptr (B + 1) := (rd a w 5 (hl 5 (by simp [Oper.looksAt, Op.operands]) (by decide)) (by decide)).trans h5
        obtain ⟨x1, x2, ao, n, c, hx⟩ := rd a w 31 (hl 31 (by simp [Oper.looksAt, Op.operands]) (by decide))
        rw [hx] at x1 x2
        obtain ⟨y, hy⟩ := hJ.2.2.1
        obtain ⟨s1, s2, s3⟩ := (hS ao n c).stores hy rfl
        refine ⟨_, by simp only [execOp, e5, hx]; exact run_skip s1, ⟨hJ.1.step s2 (.inr (.inr (.inl rfl))), row_of s2 hJ.2.1 (by simp), ⟨_, s3⟩, ?_⟩, keep w _ _ hJ s2 (.inr (.inr (.inl rfl))), fun j hj => dk w _ (B + 1) s2 (by omega) j (fun h => absurd h hj) (fun _ => by omega), ?_⟩
        · obtain ⟨y, hy⟩ := hJ.2.2.2; exact ⟨y, row_of s2 hy (by simp)⟩
        · exact ⟨_, s3, x1.kept s2 (.inr fun e => by have := x2 _ e; omega), x2⟩
      · refine og_skip trivial rfl fun a w hJ hl hs => ?_
        have e6 : a.eval (.tmp 6) = ptr (B + 1 + 1) := (rd a w 6 (hl 6 (by simp [Oper.looksAt, Op.operands]) (by decide)) (by decide)).trans h6
        obtain ⟨y, hy⟩ := hJ.2.2.2
        obtain ⟨s1, s2, s3⟩ := (hE 0).stores hy rfl
        refine ⟨_, by simp only [execOp, e6]; exact run_skip s1, ⟨hJ.1.step s2 (.inr (.inr (.inr rfl))), row_of s2 hJ.2.1 (by simp; omega), ?_, ⟨_, s3⟩⟩, keep w _ _ hJ s2 (.inr (.inr (.inr rfl))), fun j hj => dk w _ (B + 1 + 1) s2 (by omega) j (fun _ => by omega) (fun h => absurd h hj), s3⟩
        obtain ⟨y, hy⟩ := hJ.2.2.1; exact ⟨y, row_of s2 hy (by simp)⟩
    intro i o hi
    have := HO.at i o (by simpa using hi)
    rw [Nat.zero_add] at this
    exact this
  · intro a w hJ hd has hk hDD
    refine hQ a w hJ.1 hd has (fun t ht => ?_) hJ.2.1 (hDD 7 (by simp [ops7])) (hDD 8 (by simp [ops7]))
    have := hk t (by omega)
    unfold L7 at this
    split at this
    all_goals first | omega | exact this ht
end Go.Proofs.Ytkeiffccllfkpaa
