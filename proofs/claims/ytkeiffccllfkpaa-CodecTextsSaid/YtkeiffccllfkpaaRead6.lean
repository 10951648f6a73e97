/- The region of read where it fails, at whatever type: zero, nil and the error are stored. -/
import Derived.Test.YtkeiffccllfkpaaRead7
namespace Go.Proofs.Ytkeiffccllfkpaa
open Go.RowKit

def ops6 (ps : String) (st : Bool) (T tS tR tE tP : Nat) : List Oper := [
  { dst := some 21, op := if st then .load T (.tmp 8) else .move (.tmp 8), type := T, pos := ps, after := #[], guard := none },
  { dst := some 22, op := .move (.tmp 7), type := tP, pos := ps, after := #[], guard := none },
  { dst := some 23, op := .nilCheck (.tmp 22), type := 0, pos := ps, after := #[{ on := 1, ground := .data }], guard := none },
  { dst := some 24, op := .fieldAddr tR (.tmp 23) 1, type := 0, pos := ps, after := #[{ on := 2, ground := .data }], guard := none },
  { dst := some 25, op := .load tE (.tmp 24), type := tE, pos := ps, after := #[{ on := 3, ground := .data }], guard := none },
  { dst := none, op := .store T (.tmp 4) (.tmp 21), type := 0, pos := ps, after := #[{ on := 0, ground := .data }, { on := 0, ground := .phase }, { on := 1, ground := .textOnly .lateStoresUnsure }, { on := 2, ground := .textOnly .lateStoresUnsure }, { on := 3, ground := .textOnly .lateStoresUnsure }, { on := 4, ground := .textOnly .lateStoresUnsure }], guard := none },
  { dst := none, op := .store tS (.tmp 5) (.const (.slice none 0 0)), type := 0, pos := ps, after := #[{ on := 5, ground := .chain }, { on := 0, ground := .phase }, { on := 1, ground := .textOnly .lateStoresUnsure }, { on := 2, ground := .textOnly .lateStoresUnsure }, { on := 3, ground := .textOnly .lateStoresUnsure }, { on := 4, ground := .textOnly .lateStoresUnsure }, { on := 5, ground := .phase }], guard := none },
  { dst := none, op := .store tE (.tmp 6) (.tmp 25), type := 0, pos := ps, after := #[{ on := 4, ground := .data }, { on := 6, ground := .chain }, { on := 0, ground := .phase }, { on := 1, ground := .phase }, { on := 2, ground := .phase }, { on := 3, ground := .phase }, { on := 4, ground := .phase }, { on := 5, ground := .phase }, { on := 6, ground := .phase }], guard := none }]
theorem ops6_reg (ps : String) (st : Bool) (T tS tR tE tP : Nat) : regB (ops6 ps st T tS tR tE tP).toArray 32 = true := by cases st <;> kernel_rfl

def L6 (v0 : Value) (er : Int) (l0 : List Value) (R : Nat) (t : Nat) (_ : World) (v : Value) : Prop := match t with
  | 21 => v = v0
  | 22 => v = ptr R
  | 23 => v = ptr R
  | 24 => v = .pointer (some ⟨R, 1, none⟩)
  | 25 => v = .int .i64 er
  | t => t < 9 → v = l0.getD t undef
def J6 (n T tS tE B : Nat) (wz w : World) : Prop := Res3 wz w B ∧ (∃ c : Array Value, c.size = n ∧ w.heap[B]? = some (.cells c T (0, 0))) ∧ (∃ y, w.heap[B + 1]? = some (.cells #[y] tS (0, 0))) ∧ (∃ y, w.heap[B + 1 + 1]? = some (.cells #[y] tE (0, 0)))
def D6 (cs : List Value) (T tS tE B : Nat) (er : Int) (i : Nat) (w : World) : Prop := match i with
  | 5 => w.heap[B]? = some (.cells cs.toArray T (0, 0))
  | 6 => w.heap[B + 1]? = some (.cells #[.slice none 0 0] tS (0, 0))
  | 7 => w.heap[B + 1 + 1]? = some (.cells #[.int .i64 er] tE (0, 0))
  | _ => True

set_option maxHeartbeats 1000000 in
theorem read6 {ps : String} {P : Program} {Q : Exit → Act → World → Prop} (hm : P.follows .mixedOrders = true) (st : Bool) (T tS tR tE tP id B R Z : Nat) (v0 : Value) (er : Int) (cs : List Value) (l0 : List Value) (ds : List Deferred) (wz : World)
    (hl0 : l0.length = 32) (h4 : l0.getD 4 undef = ptr B) (h5 : l0.getD 5 undef = ptr (B + 1)) (h6 : l0.getD 6 undef = ptr (B + 1 + 1)) (h7 : l0.getD 7 undef = ptr R)
    (h8 : l0.getD 8 undef = if st then ptr Z else v0) (hZ : st = true → B + 1 + 1 < Z ∧ wz.heap[Z]? = some (.cells cs.toArray T (0, 0)))
    (hT : TY P T cs v0) (hS : ∀ ao n c, TY P tS [.slice ao n c] (.slice ao n c)) (hE : ∀ n, TY P tE [.int .i64 n] (.int .i64 n))
    (hB : ∃ c : Array Value, c.size = cs.length ∧ wz.heap[B]? = some (.cells c T (0, 0))) (hB1 : ∃ y, wz.heap[B + 1]? = some (.cells #[y] tS (0, 0))) (hB2 : ∃ y, wz.heap[B + 1 + 1]? = some (.cells #[y] tE (0, 0))) (hR : wz.cell? ⟨R, 1, none⟩ = some (.int .i64 er)) (hRB : B + 1 + 1 < R)
    (hfield : ∀ w, (Instr.fieldAt tR (ptr R) 1).run P w = .ok (.pointer (some ⟨R, 1, none⟩)) w)
    (hQ : ∀ a w, Res3 wz w B → a.defers = ds → a.tmps.size = 32 → (∀ t, t < 9 → a.tmps.getD t undef = l0.getD t undef) → w.heap[B]? = some (.cells cs.toArray T (0, 0)) →
      w.heap[B + 1]? = some (.cells #[.slice none 0 0] tS (0, 0)) → w.heap[B + 1 + 1]? = some (.cells #[.int .i64 er] tE (0, 0)) → Q .normal a w) :
    (Code.region id (ops6 ps st T tS tR tE tP).toArray true).wp P Q ⟨l0.toArray, ds⟩ wz := by
  have hlen : wz.heap.size > R := block_lt_of_cell hR
  refine region_gen hm 32
    (L6 v0 er l0 R) (J6 cs.length T tS tE B wz) (D6 cs T tS tE B er)
    ⟨⟨rfl, rfl, rfl, Nat.le_refl _, fun _ _ _ _ _ => rfl⟩, hB, hB1, hB2⟩ (by simpa using hl0) (ops6_reg ps st T tS tR tE tP) ?_ ?_ ?_
  · intro t ht hnd
    unfold L6
    split
    · exact absurd rfl (hnd 0 _ rfl)
    · exact absurd rfl (hnd 1 _ rfl)
    · exact absurd rfl (hnd 2 _ rfl)
    · exact absurd rfl (hnd 3 _ rfl)
    · exact absurd rfl (hnd 4 _ rfl)
    · intro _; simp [List.getD_eq_getElem?_getD]
  · have HO : OGAll P (ops6 ps st T tS tR tE tP).toArray (L6 v0 er l0 R) (J6 cs.length T tS tE B wz) (D6 cs T tS tE B er) 32 0 (ops6 ps st T tS tR tE tP) := by
      have rd : ∀ (a : Act) (w : World) (t : Nat), L6 v0 er l0 R t w (a.tmps.getD t undef) → L6 v0 er l0 R t w (a.eval (.tmp t)) := fun _ _ _ h => h
      have dk : ∀ (w w' : World) (b : Nat), w.grownBy w' (some b) → ∀ j, (j = 5 → b ≠ B) → (j = 6 → b ≠ B + 1) → (j = 7 → b ≠ B + 1 + 1) → D6 cs T tS tE B er j w → D6 cs T tS tE B er j w' := by
        intro w w' b hg j h5 h6 h7 hD
        unfold D6 at hD ⊢
        split at hD
        · have := h5 rfl; exact row_of hg hD (by simp; omega)
        · have := h6 rfl; exact row_of hg hD (by simp; omega)
        · have := h7 rfl; exact row_of hg hD (by simp; omega)
        · trivial
      refine ⟨?_, ?_, ?_, ?_, ?_, ?_, ?_, ?_, trivial⟩
      · refine og_run trivial (fun _ _ => trivial) fun a w hJ hl hs => ⟨v0, ?_, fun d hd => by cases hd; rfl⟩
        have e8 : a.eval (.tmp 8) = l0.getD 8 undef := rd a w 8 (hl 8 (by cases st <;> simp [Oper.looksAt, Op.operands]) (by decide)) (by decide)
        rw [h8] at e8
        cases st with
        | false =>
          have e8 : a.eval (.tmp 8) = v0 := e8
          simp only [execOp, Bool.false_eq_true, if_false, e8, Sem.run_pure]
        | true =>
          have e8 : a.eval (.tmp 8) = ptr Z := e8
          obtain ⟨z1, z2⟩ := hZ rfl
          have z3 := (hJ.1.block Z (Array.getElem?_eq_some_iff.1 z2).1 (by omega) (by omega) (by omega)).trans z2
          simp only [execOp, if_true, e8, Sem.run_bind, Sem.run_pure, hT.loads z3, Result.andThen]
      · refine og_run trivial (fun _ _ => trivial) fun a w hJ hl hs => ⟨ptr R, ?_, fun d hd => by cases hd; rfl⟩
        have e7 : a.eval (.tmp 7) = ptr R := (rd a w 7 (hl 7 (by simp [Oper.looksAt, Op.operands]) (by decide)) (by decide)).trans h7
        simp only [execOp, e7, Sem.run_pure]
      · refine og_run trivial (fun _ _ => trivial) fun a w hJ hl hs => ⟨ptr R, ?_, fun d hd => by cases hd; rfl⟩
        have e7 : a.eval (.tmp 22) = ptr R := rd a w 22 (hl 22 (by simp [Oper.looksAt, Op.operands]) (by decide))
        simp only [execOp, e7, ptr, Sem.run_pure]
      · refine og_run trivial (fun _ _ => trivial) fun a w hJ hl hs => ⟨.pointer (some ⟨R, 1, none⟩), ?_, fun d hd => by cases hd; rfl⟩
        have e7 : a.eval (.tmp 23) = ptr R := rd a w 23 (hl 23 (by simp [Oper.looksAt, Op.operands]) (by decide))
        simp only [execOp, e7, Sem.run_bind, Sem.run_pure, hfield w, Result.andThen]
      · refine og_run trivial (fun _ _ => trivial) fun a w hJ hl hs => ⟨.int .i64 er, ?_, fun d hd => by cases hd; rfl⟩
        have e7 : a.eval (.tmp 24) = .pointer (some ⟨R, 1, none⟩) := rd a w 24 (hl 24 (by simp [Oper.looksAt, Op.operands]) (by decide))
        have hc : w.cell? ⟨R, 1, none⟩ = some (.int .i64 er) := (World.cell?_of_block (w := wz) (a := ⟨R, 1, none⟩) (hJ.1.block R hlen (by omega) (by omega) (by omega))).trans hR
        have := (hE er).load w R 1 (fun j v hj => by
          cases j with
          | zero => simp at hj; subst hj; exact hc
          | succ j => simp at hj)
        simp only [execOp, e7, Instr.loadAt, Instr.sureAddr, Sem.run_bind, Sem.run_pure, Result.andThen_ok, this]
      · refine og_skip trivial rfl fun a w hJ hl hs => ?_
        have e4 : a.eval (.tmp 4) = ptr B := (rd a w 4 (hl 4 (by simp [Oper.looksAt, Op.operands]) (by decide)) (by decide)).trans h4
        have e26 : a.eval (.tmp 21) = v0 := rd a w 21 (hl 21 (by simp [Oper.looksAt, Op.operands]) (by decide))
        obtain ⟨c, hc, hb⟩ := hJ.2.1
        obtain ⟨s1, s2, s3⟩ := hT.stores hb hc
        refine ⟨_, by simp only [execOp, e4, e26]; exact run_skip s1, ⟨hJ.1.step s2 (.inr (.inl rfl)), ⟨_, by simp, s3⟩, ?_, ?_⟩, fun _ _ h => h, fun j hj => dk w _ B s2 j (fun h => absurd h hj) (fun _ => by omega) (fun _ => by omega), s3⟩
        · obtain ⟨y, hy⟩ := hJ.2.2.1; exact ⟨y, row_of s2 hy (by simp)⟩
        · obtain ⟨y, hy⟩ := hJ.2.2.2; exact ⟨y, row_of s2 hy (by simp; omega)⟩
      · refine og_skip trivial rfl fun a w hJ hl hs => ?_
        have e5 : a.eval (.tmp 5) = ptr (B + 1) := (rd a w 5 (hl 5 (by simp [Oper.looksAt, Op.operands]) (by decide)) (by decide)).trans h5
        obtain ⟨y, hy⟩ := hJ.2.2.1
        obtain ⟨s1, s2, s3⟩ := (hS none 0 0).stores hy rfl
        obtain ⟨c, hc, hb⟩ := hJ.2.1
        refine ⟨_, by simp only [execOp, e5]; exact run_skip s1, ⟨hJ.1.step s2 (.inr (.inr (.inl rfl))), ⟨c, hc, row_of s2 hb (by simp)⟩, ⟨_, s3⟩, ?_⟩, fun _ _ h => h, fun j hj => dk w _ (B + 1) s2 j (fun _ => by omega) (fun h => absurd h hj) (fun _ => by omega), s3⟩
        obtain ⟨y, hy⟩ := hJ.2.2.2; exact ⟨y, row_of s2 hy (by simp)⟩
      · refine og_skip trivial rfl fun a w hJ hl hs => ?_
        have e6 : a.eval (.tmp 6) = ptr (B + 1 + 1) := (rd a w 6 (hl 6 (by simp [Oper.looksAt, Op.operands]) (by decide)) (by decide)).trans h6
        have e25 : a.eval (.tmp 25) = .int .i64 er := rd a w 25 (hl 25 (by simp [Oper.looksAt, Op.operands]) (by decide))
        obtain ⟨y, hy⟩ := hJ.2.2.2
        obtain ⟨s1, s2, s3⟩ := (hE er).stores hy rfl
        obtain ⟨c, hc, hb⟩ := hJ.2.1
        refine ⟨_, by simp only [execOp, e6, e25]; exact run_skip s1, ⟨hJ.1.step s2 (.inr (.inr (.inr rfl))), ⟨c, hc, row_of s2 hb (by simp; omega)⟩, ?_, ⟨_, s3⟩⟩, fun _ _ h => h, fun j hj => dk w _ (B + 1 + 1) s2 j (fun _ => by omega) (fun _ => by omega) (fun h => absurd h hj), s3⟩
        obtain ⟨y, hy⟩ := hJ.2.2.1; exact ⟨y, row_of s2 hy (by simp)⟩
    intro i o hi
    have := HO.at i o (by simpa using hi)
    rw [Nat.zero_add] at this
    exact this
  · intro a w hJ hd has hk hDD
    refine hQ a w hJ.1 hd has (fun t ht => ?_) (hDD 5 (by simp [ops6])) (hDD 6 (by simp [ops6])) (hDD 7 (by simp [ops6]))
    have := hk t (by omega)
    unfold L6 at this
    split at this
    all_goals first | omega | exact this ht
end Go.Proofs.Ytkeiffccllfkpaa
