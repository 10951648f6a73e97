/- The law CodecEntries walked. -/
import Derived.Test.YtkeiffccllfkpaaN26
namespace Go.Proofs.Ytkeiffccllfkpaa
open Go.RowKit
set_option linter.unusedSimpArgs false

theorem pLE_bad {x : LE} (hw : x.wf) (h : x.kind < 1 ∨ 7 < x.kind) (ys : List Nat) : pLE (encLE x ++ ys) = .error 1 := by
  unfold pLE encLE pIntIn
  rw [List.append_assoc]
  simp only [pBind]
  rw [(cd_int hw.kind).rt]
  simp only
  rw [if_pos h]
theorem encLE_len2 (x : LE) (hw : x.wf) (h : x.sm) : (encLE x).length ≤ 20000000 := by
  have k1 := enc_len hw.kind.1 hw.kind.2
  have k2 := enc_len hw.day.1 hw.day.2
  have k3 := enc_len hw.plan.1 hw.plan.2
  have k4 := enc_len hw.step.1 hw.step.2
  have t : (encLEt x).length ≤ 10000000 := by
    have h1 := h.req
    have h2 := h.lnka
    have h3 := h.lnkb
    have h4 := h.hld
    have h5 := h.vers
    have h6 := h.srcs
    unfold encLEt
    split
    · have := encReq_len x.req hw.req (by omega)
      omega
    split
    · have := encVers_len hw.vers (by omega)
      have := encSrcs_len hw.srcs (by omega)
      rw [List.length_append]
      omega
    split
    · rw [hw.root.1]
      omega
    split
    · have := encLnk_len x.lnk hw.lnk ⟨by omega, by omega⟩
      omega
    split
    · have := encHld_len x.hld hw.hld (by omega)
      omega
    · simp
  unfold encLE
  simp only [List.length_append]
  omega
theorem norm_vers (x : LE) (v : Value) {w : World} (h : Sl w 3 v x.vers.length (x.vers.flatMap vercells)) : Sl w 3 (if x.kind = 2 then v else nilS) x.norm.vers.length (x.norm.vers.flatMap vercells) := by
  by_cases hk : x.kind = 2
  · have e : x.norm.vers = x.vers := by unfold LE.norm; rw [if_neg (by omega), if_pos hk]
    rw [if_pos hk, e]
    exact h
  · have e : x.norm.vers = [] := by
      unfold LE.norm
      rw [if_neg hk]
      by_cases h1 : x.kind = 1
      · rw [if_pos h1]; rfl
      rw [if_neg h1]
      by_cases h4 : x.kind = 4
      · rw [if_pos h4]; rfl
      rw [if_neg h4]
      by_cases h6 : x.kind = 6
      · rw [if_pos h6]; rfl
      rw [if_neg h6]
      by_cases h7 : x.kind = 7
      · rw [if_pos h7]; rfl
      rw [if_neg h7]
      rfl
    rw [if_neg hk, e]
    exact Sl.nil _ _
theorem norm_srcs (x : LE) (v : Value) {w : World} (h : Sl w 2 v x.srcs.length (x.srcs.flatMap srccells)) : Sl w 2 (if x.kind = 2 then v else nilS) x.norm.srcs.length (x.norm.srcs.flatMap srccells) := by
  by_cases hk : x.kind = 2
  · have e : x.norm.srcs = x.srcs := by unfold LE.norm; rw [if_neg (by omega), if_pos hk]
    rw [if_pos hk, e]
    exact h
  · have e : x.norm.srcs = [] := by
      unfold LE.norm
      rw [if_neg hk]
      by_cases h1 : x.kind = 1
      · rw [if_pos h1]; rfl
      rw [if_neg h1]
      by_cases h4 : x.kind = 4
      · rw [if_pos h4]; rfl
      rw [if_neg h4]
      by_cases h6 : x.kind = 6
      · rw [if_pos h6]; rfl
      rw [if_neg h6]
      by_cases h7 : x.kind = 7
      · rw [if_pos h7]; rfl
      rw [if_neg h7]
      rfl
    rw [if_neg hk, e]
    exact Sl.nil _ _
set_option linter.unusedVariables false
def c16ap0 (ps0 : String) : Oper := { dst := some 28, op := Go.Op.move (Go.Operand.tmp 5), type := 22, pos := ps0, after := #[], guard := none }
def c16ap1 (ps0 : String) : Oper := { dst := some 29, op := Go.Op.convert 22 9 (Go.Operand.tmp 28), type := 9, pos := ps0, after := #[{ on := 0, ground := Go.Ground.data }], guard := none }
def c16ap2 (ps0 : String) : Oper := { dst := some 30, op := Go.Op.load 111 (Go.Operand.tmp 2), type := 111, pos := ps0, after := #[], guard := none }
def c16ap3 (ps0 : String) : Oper := { dst := some 31, op := Go.Op.call { callee := Go.Callee.value (Go.Operand.func 60), args := #[Go.Operand.tmp 30], argTypes := #[111] }, type := 22, pos := ps0, after := #[{ on := 2, ground := Go.Ground.data }], guard := none }
def c16ap4 (ps0 : String) : Oper := { dst := some 32, op := Go.Op.convert 22 9 (Go.Operand.tmp 31), type := 9, pos := ps0, after := #[{ on := 3, ground := Go.Ground.data }], guard := none }
def c16ap5 (ps0 : String) : Oper := { dst := some 33, op := Go.Op.binOp Go.BinOp.neq 9 (Go.Operand.tmp 29) (Go.Operand.tmp 32) 9, type := 4, pos := ps0, after := #[{ on := 1, ground := Go.Ground.data }, { on := 4, ground := Go.Ground.data }], guard := none }
def c16aops (ps0 : String) : List Oper := [c16ap0 ps0, c16ap1 ps0, c16ap2 ps0, c16ap3 ps0, c16ap4 ps0, c16ap5 ps0]
def c16aF (E : List Nat) (V : Value) (C : List Value) (X : Nat) : List Value := [undef, undef, (.pointer (some ⟨X, 0, none⟩)), undef, undef, undef, undef, undef, undef, undef, undef, undef, undef, undef, undef, undef, undef, undef, undef, undef, undef, undef, undef, undef, undef, undef, undef, undef, undef, (.string (bs E)), V, undef, (.string (bs E)), (.bool false), undef, undef, undef, undef, undef, undef, undef, undef, undef, undef, undef, undef, undef, undef, undef, undef, undef, undef, undef, undef, undef, undef, undef, undef, undef, undef, undef, undef, undef, undef, undef, undef, undef, undef, undef, undef, undef, undef, undef, undef, undef]
def c16aL (E : List Nat) (V : Value) (C : List Value) (X : Nat) : List Sp := [Sp.any, Sp.any, Sp.is (.pointer (some ⟨X, 0, none⟩)), Sp.any, Sp.any, Sp.sl E, Sp.any, Sp.any, Sp.any, Sp.any, Sp.any, Sp.any, Sp.any, Sp.any, Sp.any, Sp.any, Sp.any, Sp.any, Sp.any, Sp.any, Sp.any, Sp.any, Sp.any, Sp.any, Sp.any, Sp.any, Sp.any, Sp.any, Sp.sl E, Sp.is (.string (bs E)), Sp.is V, Sp.sl E, Sp.is (.string (bs E)), Sp.is (.bool false), Sp.any, Sp.any, Sp.any, Sp.any, Sp.any, Sp.any, Sp.any, Sp.any, Sp.any, Sp.any, Sp.any, Sp.any, Sp.any, Sp.any, Sp.any, Sp.any, Sp.any, Sp.any, Sp.any, Sp.any, Sp.any, Sp.any, Sp.any, Sp.any, Sp.any, Sp.any, Sp.any, Sp.any, Sp.any, Sp.any, Sp.any, Sp.any, Sp.any, Sp.any, Sp.any, Sp.any, Sp.any, Sp.any, Sp.any, Sp.any, Sp.any]
theorem c16a_reg (ps0 : String) : regB (c16aops ps0).toArray 75 = true := by kernel_rfl
theorem c16a_m (ps0 : String) : dstsB (c16aops ps0) 75 = [false, false, false, false, false, false, false, false, false, false, false, false, false, false, false, false, false, false, false, false, false, false, false, false, false, false, false, false, true, true, true, true, true, true, false, false, false, false, false, false, false, false, false, false, false, false, false, false, false, false, false, false, false, false, false, false, false, false, false, false, false, false, false, false, false, false, false, false, false, false, false, false, false, false, false] := by kernel_rfl
set_option maxRecDepth 100000 in
theorem c16a_o0 (ps0 : String) (E : List Nat) (V : Value) (C : List Value) (X : Nat) (w0 : World) (hX : w0.heap[X]? = some (.cells C.toArray 111 (0, 0))) (hT : TY Try.prog 111 C V) (hR : ∀ w, w0.grownBy w none → Calls Try.prog 60 #[V] w fun en w' => ∃ u, en = .returned u ∧ Own w' 5 1 u E.length (bv E) ∧ Fresh w w' u) : Ob Try.prog (c16aops ps0).toArray (c16aL E V C X) 75 w0 (c16ap0 ps0) := ob_move 5 28 rfl rfl (by decide) trivial (fun _ _ h => h)
set_option maxRecDepth 100000 in
theorem c16a_o1 (ps0 : String) (E : List Nat) (V : Value) (C : List Value) (X : Nat) (w0 : World) (hX : w0.heap[X]? = some (.cells C.toArray 111 (0, 0))) (hT : TY Try.prog 111 C V) (hR : ∀ w, w0.grownBy w none → Calls Try.prog 60 #[V] w fun en w' => ∃ u, en = .returned u ∧ Own w' 5 1 u E.length (bv E) ∧ Fresh w w' u) : Ob Try.prog (c16aops ps0).toArray (c16aL E V C X) 75 w0 (c16ap1 ps0) := ob_conv 28 29 22 9 5 Try.underlying22 Try.underlying5 Try.underlying9 E rfl rfl (by decide) trivial (fun _ _ _ h => h) (fun _ => rfl)
set_option maxRecDepth 100000 in
theorem c16a_o2 (ps0 : String) (E : List Nat) (V : Value) (C : List Value) (X : Nat) (w0 : World) (hX : w0.heap[X]? = some (.cells C.toArray 111 (0, 0))) (hT : TY Try.prog 111 C V) (hR : ∀ w, w0.grownBy w none → Calls Try.prog 60 #[V] w fun en w' => ∃ u, en = .returned u ∧ Own w' 5 1 u E.length (bv E) ∧ Fresh w w' u) : Ob Try.prog (c16aops ps0).toArray (c16aL E V C X) 75 w0 (c16ap2 ps0) := ob_load rfl rfl trivial ⟨by decide, fun _ _ h => h⟩ hT (rangeAt_row hX) (fun _ _ => rfl)
set_option maxRecDepth 100000 in
theorem c16a_o3 (ps0 : String) (E : List Nat) (V : Value) (C : List Value) (X : Nat) (w0 : World) (hX : w0.heap[X]? = some (.cells C.toArray 111 (0, 0))) (hT : TY Try.prog 111 C V) (hR : ∀ w, w0.grownBy w none → Calls Try.prog 60 #[V] w fun en w' => ∃ u, en = .returned u ∧ Own w' 5 1 u E.length (bv E) ∧ Fresh w w' u) : Ob Try.prog (c16aops ps0).toArray (c16aL E V C X) 75 w0 (c16ap3 ps0) := ob_call2 [V] rfl rfl trivial ⟨⟨by decide, fun _ _ h => h⟩, trivial⟩ (fun w hw => (hR w hw).mono fun e w1 ⟨v, he, ho, hf⟩ => ⟨v, he, hf.1, Sl.of_own ho⟩) (enter_of Try.func60 (by kernel_rfl) rfl)
set_option maxRecDepth 100000 in
theorem c16a_o4 (ps0 : String) (E : List Nat) (V : Value) (C : List Value) (X : Nat) (w0 : World) (hX : w0.heap[X]? = some (.cells C.toArray 111 (0, 0))) (hT : TY Try.prog 111 C V) (hR : ∀ w, w0.grownBy w none → Calls Try.prog 60 #[V] w fun en w' => ∃ u, en = .returned u ∧ Own w' 5 1 u E.length (bv E) ∧ Fresh w w' u) : Ob Try.prog (c16aops ps0).toArray (c16aL E V C X) 75 w0 (c16ap4 ps0) := ob_conv 31 32 22 9 5 Try.underlying22 Try.underlying5 Try.underlying9 E rfl rfl (by decide) trivial (fun _ _ _ h => h) (fun _ => rfl)
set_option maxRecDepth 100000 in
theorem c16a_o5 (ps0 : String) (E : List Nat) (V : Value) (C : List Value) (X : Nat) (w0 : World) (hX : w0.heap[X]? = some (.cells C.toArray 111 (0, 0))) (hT : TY Try.prog 111 C V) (hR : ∀ w, w0.grownBy w none → Calls Try.prog 60 #[V] w fun en w' => ∃ u, en = .returned u ∧ Own w' 5 1 u E.length (bv E) ∧ Fresh w w' u) : Ob Try.prog (c16aops ps0).toArray (c16aL E V C X) 75 w0 (c16ap5 ps0) := ob_neS rfl rfl trivial ⟨by decide, fun _ _ h => h⟩ ⟨by decide, fun _ _ h => h⟩ rfl (fun _ => rfl)
set_option maxRecDepth 100000 in
theorem c16a_ob (ps0 : String) (E : List Nat) (V : Value) (C : List Value) (X : Nat) (w0 : World) (hX : w0.heap[X]? = some (.cells C.toArray 111 (0, 0))) (hT : TY Try.prog 111 C V) (hR : ∀ w, w0.grownBy w none → Calls Try.prog 60 #[V] w fun en w' => ∃ u, en = .returned u ∧ Own w' 5 1 u E.length (bv E) ∧ Fresh w w' u) : ObAll Try.prog (c16aops ps0).toArray (c16aL E V C X) 75 w0 (c16aops ps0) := ⟨c16a_o0 ps0 E V C X w0 hX hT hR, c16a_o1 ps0 E V C X w0 hX hT hR, c16a_o2 ps0 E V C X w0 hX hT hR, c16a_o3 ps0 E V C X w0 hX hT hR, c16a_o4 ps0 E V C X w0 hX hT hR, c16a_o5 ps0 E V C X w0 hX hT hR, trivial⟩
set_option linter.unusedVariables false
def c16bp0 (ps0 : String) : Oper := { dst := some 57, op := Go.Op.move (Go.Operand.tmp 8), type := 25, pos := ps0, after := #[], guard := none }
def c16bp1 (ps0 : String) : Oper := { dst := some 58, op := Go.Op.binOp Go.BinOp.eql 25 (Go.Operand.tmp 57) (Go.Operand.const (Go.Value.int Go.IntKind.i64 0)) 25, type := 4, pos := ps0, after := #[{ on := 0, ground := Go.Ground.data }], guard := none }
def c16bp2 (ps0 : String) : Oper := { dst := some 59, op := Go.Op.move (Go.Operand.tmp 58), type := 4, pos := ps0, after := #[{ on := 1, ground := Go.Ground.data }], guard := none }
def c16bp3 (ps0 : String) : Oper := { dst := some 60, op := Go.Op.load 111 (Go.Operand.tmp 6), type := 111, pos := ps0, after := #[{ on := 2, ground := Go.Ground.guard }], guard := some (2, true) }
def c16bp4 (ps0 : String) : Oper := { dst := some 61, op := Go.Op.load 111 (Go.Operand.tmp 2), type := 111, pos := ps0, after := #[{ on := 2, ground := Go.Ground.guard }], guard := some (2, true) }
def c16bp5 (ps0 : String) : Oper := { dst := some 62, op := Go.Op.call { callee := Go.Callee.value (Go.Operand.func 86), args := #[Go.Operand.tmp 61], argTypes := #[111] }, type := 111, pos := ps0, after := #[{ on := 4, ground := Go.Ground.data }, { on := 2, ground := Go.Ground.chain }, { on := 2, ground := Go.Ground.guard }], guard := some (2, true) }
def c16bp6 (ps0 : String) : Oper := { dst := some 63, op := Go.Op.call { callee := Go.Callee.value (Go.Operand.func 62), args := #[Go.Operand.tmp 60, Go.Operand.tmp 62], argTypes := #[111, 111] }, type := 4, pos := ps0, after := #[{ on := 3, ground := Go.Ground.data }, { on := 5, ground := Go.Ground.data }, { on := 5, ground := Go.Ground.chain }, { on := 2, ground := Go.Ground.guard }], guard := some (2, true) }
def c16bp7 (ps0 : String) : Oper := { dst := some 64, op := Go.Op.pick (Go.Operand.tmp 59) (Go.Operand.tmp 63) (Go.Operand.const (Go.Value.bool false)), type := 4, pos := ps0, after := #[{ on := 2, ground := Go.Ground.data }, { on := 6, ground := Go.Ground.data }], guard := none }
def c16bp8 (ps0 : String) : Oper := { dst := some 65, op := Go.Op.move (Go.Operand.tmp 64), type := 4, pos := ps0, after := #[{ on := 7, ground := Go.Ground.data }, { on := 6, ground := Go.Ground.chain }], guard := none }
def c16bp9 (ps0 : String) : Oper := { dst := some 66, op := Go.Op.move (Go.Operand.tmp 7), type := 22, pos := ps0, after := #[{ on := 8, ground := Go.Ground.guard }], guard := some (8, true) }
def c16bp10 (ps0 : String) : Oper := { dst := some 67, op := Go.Op.convert 22 9 (Go.Operand.tmp 66), type := 9, pos := ps0, after := #[{ on := 9, ground := Go.Ground.data }, { on := 8, ground := Go.Ground.guard }], guard := some (8, true) }
def c16bp11 (ps0 : String) : Oper := { dst := some 68, op := Go.Op.move (Go.Operand.tmp 1), type := 22, pos := ps0, after := #[{ on := 8, ground := Go.Ground.guard }], guard := some (8, true) }
def c16bp12 (ps0 : String) : Oper := { dst := some 69, op := Go.Op.convert 22 9 (Go.Operand.tmp 68), type := 9, pos := ps0, after := #[{ on := 11, ground := Go.Ground.data }, { on := 8, ground := Go.Ground.guard }], guard := some (8, true) }
def c16bp13 (ps0 : String) : Oper := { dst := some 70, op := Go.Op.binOp Go.BinOp.eql 9 (Go.Operand.tmp 67) (Go.Operand.tmp 69) 9, type := 4, pos := ps0, after := #[{ on := 10, ground := Go.Ground.data }, { on := 12, ground := Go.Ground.data }, { on := 8, ground := Go.Ground.guard }], guard := some (8, true) }
def c16bp14 (ps0 : String) : Oper := { dst := some 71, op := Go.Op.pick (Go.Operand.tmp 65) (Go.Operand.tmp 70) (Go.Operand.const (Go.Value.bool false)), type := 4, pos := ps0, after := #[{ on := 8, ground := Go.Ground.data }, { on := 13, ground := Go.Ground.data }], guard := none }
def c16bp15 (ps0 : String) : Oper := { dst := some 72, op := Go.Op.move (Go.Operand.tmp 71), type := 4, pos := ps0, after := #[{ on := 14, ground := Go.Ground.data }, { on := 8, ground := Go.Ground.chain }], guard := none }
def c16bp16 (ps0 : String) : Oper := { dst := some 73, op := Go.Op.call { callee := Go.Callee.value (Go.Operand.func 18), args := #[], argTypes := #[] }, type := 4, pos := ps0, after := #[{ on := 15, ground := Go.Ground.chain }, { on := 15, ground := Go.Ground.guard }], guard := some (15, true) }
def c16bp17 (ps0 : String) : Oper := { dst := some 74, op := Go.Op.pick (Go.Operand.tmp 72) (Go.Operand.tmp 73) (Go.Operand.const (Go.Value.bool false)), type := 4, pos := ps0, after := #[{ on := 15, ground := Go.Ground.data }, { on := 16, ground := Go.Ground.data }], guard := none }
def c16bp18 (ps0 : String) : Oper := { dst := some 4, op := Go.Op.assign (Go.Operand.tmp 74), type := 4, pos := ps0, after := #[{ on := 17, ground := Go.Ground.data }, { on := 16, ground := Go.Ground.chain }, { on := 0, ground := Go.Ground.phase }, { on := 1, ground := Go.Ground.phase }, { on := 2, ground := Go.Ground.phase }, { on := 3, ground := Go.Ground.phase }, { on := 4, ground := Go.Ground.phase }, { on := 5, ground := Go.Ground.phase }, { on := 6, ground := Go.Ground.phase }, { on := 7, ground := Go.Ground.phase }, { on := 8, ground := Go.Ground.phase }, { on := 9, ground := Go.Ground.phase }, { on := 10, ground := Go.Ground.phase }, { on := 11, ground := Go.Ground.phase }, { on := 12, ground := Go.Ground.phase }, { on := 13, ground := Go.Ground.phase }, { on := 14, ground := Go.Ground.phase }, { on := 15, ground := Go.Ground.phase }, { on := 16, ground := Go.Ground.phase }, { on := 17, ground := Go.Ground.phase }], guard := none }
def c16bops (ps0 : String) : List Oper := [c16bp0 ps0, c16bp1 ps0, c16bp2 ps0, c16bp3 ps0, c16bp4 ps0, c16bp5 ps0, c16bp6 ps0, c16bp7 ps0, c16bp8 ps0, c16bp9 ps0, c16bp10 ps0, c16bp11 ps0, c16bp12 ps0, c16bp13 ps0, c16bp14 ps0, c16bp15 ps0, c16bp16 ps0, c16bp17 ps0, c16bp18 ps0]
def c16bF (ys : List Nat) (V V7 U : Value) (C C7 : List Value) (X Y : Nat) : List Value := [undef, undef, (.pointer (some ⟨X, 0, none⟩)), undef, (.bool true), undef, (.pointer (some ⟨Y, 0, none⟩)), undef, (.int .i64 0), undef, undef, undef, undef, undef, undef, undef, undef, undef, undef, undef, undef, undef, undef, undef, undef, undef, undef, undef, undef, undef, undef, undef, undef, undef, undef, undef, undef, undef, undef, undef, undef, undef, undef, undef, undef, undef, undef, undef, undef, undef, undef, undef, undef, undef, undef, undef, undef, (.int .i64 0), (.bool true), (.bool true), V7, V, U, (.bool true), (.bool true), (.bool true), undef, (.string (bs ys)), undef, (.string (bs ys)), (.bool true), (.bool true), (.bool true), (.bool true), (.bool true)]
def c16bL (ys : List Nat) (V V7 U : Value) (C C7 : List Value) (X Y : Nat) : List Sp := [Sp.any, Sp.sl ys, Sp.is (.pointer (some ⟨X, 0, none⟩)), Sp.any, Sp.is (.bool true), Sp.any, Sp.is (.pointer (some ⟨Y, 0, none⟩)), Sp.sl ys, Sp.is (.int .i64 0), Sp.any, Sp.any, Sp.any, Sp.any, Sp.any, Sp.any, Sp.any, Sp.any, Sp.any, Sp.any, Sp.any, Sp.any, Sp.any, Sp.any, Sp.any, Sp.any, Sp.any, Sp.any, Sp.any, Sp.any, Sp.any, Sp.any, Sp.any, Sp.any, Sp.any, Sp.any, Sp.any, Sp.any, Sp.any, Sp.any, Sp.any, Sp.any, Sp.any, Sp.any, Sp.any, Sp.any, Sp.any, Sp.any, Sp.any, Sp.any, Sp.any, Sp.any, Sp.any, Sp.any, Sp.any, Sp.any, Sp.any, Sp.any, Sp.is (.int .i64 0), Sp.is (.bool true), Sp.is (.bool true), Sp.is V7, Sp.is V, Sp.is U, Sp.is (.bool true), Sp.is (.bool true), Sp.is (.bool true), Sp.sl ys, Sp.is (.string (bs ys)), Sp.sl ys, Sp.is (.string (bs ys)), Sp.is (.bool true), Sp.is (.bool true), Sp.is (.bool true), Sp.is (.bool true), Sp.is (.bool true)]
theorem c16b_reg (ps0 : String) : regB (c16bops ps0).toArray 75 = true := by kernel_rfl
theorem c16b_m (ps0 : String) : dstsB (c16bops ps0) 75 = [false, false, false, false, true, false, false, false, false, false, false, false, false, false, false, false, false, false, false, false, false, false, false, false, false, false, false, false, false, false, false, false, false, false, false, false, false, false, false, false, false, false, false, false, false, false, false, false, false, false, false, false, false, false, false, false, false, true, true, true, true, true, true, true, true, true, true, true, true, true, true, true, true, true, true] := by kernel_rfl
set_option maxRecDepth 100000 in
theorem c16b_o0 (ps0 : String) (ys : List Nat) (V V7 U : Value) (C C7 : List Value) (X Y : Nat) (w0 : World) (hX : w0.heap[X]? = some (.cells C.toArray 111 (0, 0))) (hT : TY Try.prog 111 C V) (hY : w0.heap[Y]? = some (.cells C7.toArray 111 (0, 0))) (hT7 : TY Try.prog 111 C7 V7) (hN : ∀ w, w0.grownBy w none → Calls Try.prog 86 #[V] w fun en w' => en = .returned U ∧ w.grownBy w' none) (hS : ∀ w, w0.grownBy w none → Calls Try.prog 62 #[V7, U] w fun en w' => en = .returned (.bool true) ∧ w.grownBy w' none) : Ob Try.prog (c16bops ps0).toArray (c16bL ys V V7 U C C7 X Y) 75 w0 (c16bp0 ps0) := ob_move 8 57 rfl rfl (by decide) trivial (fun _ _ h => h)
set_option maxRecDepth 100000 in
theorem c16b_o1 (ps0 : String) (ys : List Nat) (V V7 U : Value) (C C7 : List Value) (X Y : Nat) (w0 : World) (hX : w0.heap[X]? = some (.cells C.toArray 111 (0, 0))) (hT : TY Try.prog 111 C V) (hY : w0.heap[Y]? = some (.cells C7.toArray 111 (0, 0))) (hT7 : TY Try.prog 111 C7 V7) (hN : ∀ w, w0.grownBy w none → Calls Try.prog 86 #[V] w fun en w' => en = .returned U ∧ w.grownBy w' none) (hS : ∀ w, w0.grownBy w none → Calls Try.prog 62 #[V7, U] w fun en w' => en = .returned (.bool true) ∧ w.grownBy w' none) : Ob Try.prog (c16bops ps0).toArray (c16bL ys V V7 U C C7 X Y) 75 w0 (c16bp1 ps0) := ob_eqI rfl rfl trivial ⟨by decide, fun _ _ h => h⟩ rfl rfl (fun _ => rfl)
set_option maxRecDepth 100000 in
theorem c16b_o2 (ps0 : String) (ys : List Nat) (V V7 U : Value) (C C7 : List Value) (X Y : Nat) (w0 : World) (hX : w0.heap[X]? = some (.cells C.toArray 111 (0, 0))) (hT : TY Try.prog 111 C V) (hY : w0.heap[Y]? = some (.cells C7.toArray 111 (0, 0))) (hT7 : TY Try.prog 111 C7 V7) (hN : ∀ w, w0.grownBy w none → Calls Try.prog 86 #[V] w fun en w' => en = .returned U ∧ w.grownBy w' none) (hS : ∀ w, w0.grownBy w none → Calls Try.prog 62 #[V7, U] w fun en w' => en = .returned (.bool true) ∧ w.grownBy w' none) : Ob Try.prog (c16bops ps0).toArray (c16bL ys V V7 U C C7 X Y) 75 w0 (c16bp2 ps0) := ob_move 58 59 rfl rfl (by decide) trivial (fun _ _ h => h)
set_option maxRecDepth 100000 in
theorem c16b_o3 (ps0 : String) (ys : List Nat) (V V7 U : Value) (C C7 : List Value) (X Y : Nat) (w0 : World) (hX : w0.heap[X]? = some (.cells C.toArray 111 (0, 0))) (hT : TY Try.prog 111 C V) (hY : w0.heap[Y]? = some (.cells C7.toArray 111 (0, 0))) (hT7 : TY Try.prog 111 C7 V7) (hN : ∀ w, w0.grownBy w none → Calls Try.prog 86 #[V] w fun en w' => en = .returned U ∧ w.grownBy w' none) (hS : ∀ w, w0.grownBy w none → Calls Try.prog 62 #[V7, U] w fun en w' => en = .returned (.bool true) ∧ w.grownBy w' none) : Ob Try.prog (c16bops ps0).toArray (c16bL ys V V7 U C C7 X Y) 75 w0 (c16bp3 ps0) := ob_load rfl rfl ⟨59, rfl, by decide, fun _ _ h => h⟩ ⟨by decide, fun _ _ h => h⟩ hT7 (rangeAt_row hY) (fun _ _ => rfl)
set_option maxRecDepth 100000 in
theorem c16b_o4 (ps0 : String) (ys : List Nat) (V V7 U : Value) (C C7 : List Value) (X Y : Nat) (w0 : World) (hX : w0.heap[X]? = some (.cells C.toArray 111 (0, 0))) (hT : TY Try.prog 111 C V) (hY : w0.heap[Y]? = some (.cells C7.toArray 111 (0, 0))) (hT7 : TY Try.prog 111 C7 V7) (hN : ∀ w, w0.grownBy w none → Calls Try.prog 86 #[V] w fun en w' => en = .returned U ∧ w.grownBy w' none) (hS : ∀ w, w0.grownBy w none → Calls Try.prog 62 #[V7, U] w fun en w' => en = .returned (.bool true) ∧ w.grownBy w' none) : Ob Try.prog (c16bops ps0).toArray (c16bL ys V V7 U C C7 X Y) 75 w0 (c16bp4 ps0) := ob_load rfl rfl ⟨59, rfl, by decide, fun _ _ h => h⟩ ⟨by decide, fun _ _ h => h⟩ hT (rangeAt_row hX) (fun _ _ => rfl)
set_option maxRecDepth 100000 in
theorem c16b_o5 (ps0 : String) (ys : List Nat) (V V7 U : Value) (C C7 : List Value) (X Y : Nat) (w0 : World) (hX : w0.heap[X]? = some (.cells C.toArray 111 (0, 0))) (hT : TY Try.prog 111 C V) (hY : w0.heap[Y]? = some (.cells C7.toArray 111 (0, 0))) (hT7 : TY Try.prog 111 C7 V7) (hN : ∀ w, w0.grownBy w none → Calls Try.prog 86 #[V] w fun en w' => en = .returned U ∧ w.grownBy w' none) (hS : ∀ w, w0.grownBy w none → Calls Try.prog 62 #[V7, U] w fun en w' => en = .returned (.bool true) ∧ w.grownBy w' none) : Ob Try.prog (c16bops ps0).toArray (c16bL ys V V7 U C C7 X Y) 75 w0 (c16bp5 ps0) := ob_call2 [V] rfl rfl ⟨59, rfl, by decide, fun _ _ h => h⟩ ⟨⟨by decide, fun _ _ h => h⟩, trivial⟩ (fun w hw => (hN w hw).mono fun e w1 ⟨he, hg⟩ => ⟨_, he, hg, rfl⟩) (enter_of Try.func86 (by kernel_rfl) rfl)
set_option maxRecDepth 100000 in
theorem c16b_o6 (ps0 : String) (ys : List Nat) (V V7 U : Value) (C C7 : List Value) (X Y : Nat) (w0 : World) (hX : w0.heap[X]? = some (.cells C.toArray 111 (0, 0))) (hT : TY Try.prog 111 C V) (hY : w0.heap[Y]? = some (.cells C7.toArray 111 (0, 0))) (hT7 : TY Try.prog 111 C7 V7) (hN : ∀ w, w0.grownBy w none → Calls Try.prog 86 #[V] w fun en w' => en = .returned U ∧ w.grownBy w' none) (hS : ∀ w, w0.grownBy w none → Calls Try.prog 62 #[V7, U] w fun en w' => en = .returned (.bool true) ∧ w.grownBy w' none) : Ob Try.prog (c16bops ps0).toArray (c16bL ys V V7 U C C7 X Y) 75 w0 (c16bp6 ps0) := ob_call2 [V7, U] rfl rfl ⟨59, rfl, by decide, fun _ _ h => h⟩ ⟨⟨by decide, fun _ _ h => h⟩, ⟨by decide, fun _ _ h => h⟩, trivial⟩ (fun w hw => (hS w hw).mono fun e w1 ⟨he, hg⟩ => ⟨_, he, hg, rfl⟩) (enter_of Try.func62 (by kernel_rfl) rfl)
set_option maxRecDepth 100000 in
theorem c16b_o7 (ps0 : String) (ys : List Nat) (V V7 U : Value) (C C7 : List Value) (X Y : Nat) (w0 : World) (hX : w0.heap[X]? = some (.cells C.toArray 111 (0, 0))) (hT : TY Try.prog 111 C V) (hY : w0.heap[Y]? = some (.cells C7.toArray 111 (0, 0))) (hT7 : TY Try.prog 111 C7 V7) (hN : ∀ w, w0.grownBy w none → Calls Try.prog 86 #[V] w fun en w' => en = .returned U ∧ w.grownBy w' none) (hS : ∀ w, w0.grownBy w none → Calls Try.prog 62 #[V7, U] w fun en w' => en = .returned (.bool true) ∧ w.grownBy w' none) : Ob Try.prog (c16bops ps0).toArray (c16bL ys V V7 U C C7 X Y) 75 w0 (c16bp7 ps0) := ob_pick rfl rfl trivial ⟨by decide, fun _ _ h => h⟩ ⟨by decide, fun _ _ h => h⟩ (fun _ => rfl)
set_option maxRecDepth 100000 in
theorem c16b_o8 (ps0 : String) (ys : List Nat) (V V7 U : Value) (C C7 : List Value) (X Y : Nat) (w0 : World) (hX : w0.heap[X]? = some (.cells C.toArray 111 (0, 0))) (hT : TY Try.prog 111 C V) (hY : w0.heap[Y]? = some (.cells C7.toArray 111 (0, 0))) (hT7 : TY Try.prog 111 C7 V7) (hN : ∀ w, w0.grownBy w none → Calls Try.prog 86 #[V] w fun en w' => en = .returned U ∧ w.grownBy w' none) (hS : ∀ w, w0.grownBy w none → Calls Try.prog 62 #[V7, U] w fun en w' => en = .returned (.bool true) ∧ w.grownBy w' none) : Ob Try.prog (c16bops ps0).toArray (c16bL ys V V7 U C C7 X Y) 75 w0 (c16bp8 ps0) := ob_move 64 65 rfl rfl (by decide) trivial (fun _ _ h => h)
set_option maxRecDepth 100000 in
theorem c16b_o9 (ps0 : String) (ys : List Nat) (V V7 U : Value) (C C7 : List Value) (X Y : Nat) (w0 : World) (hX : w0.heap[X]? = some (.cells C.toArray 111 (0, 0))) (hT : TY Try.prog 111 C V) (hY : w0.heap[Y]? = some (.cells C7.toArray 111 (0, 0))) (hT7 : TY Try.prog 111 C7 V7) (hN : ∀ w, w0.grownBy w none → Calls Try.prog 86 #[V] w fun en w' => en = .returned U ∧ w.grownBy w' none) (hS : ∀ w, w0.grownBy w none → Calls Try.prog 62 #[V7, U] w fun en w' => en = .returned (.bool true) ∧ w.grownBy w' none) : Ob Try.prog (c16bops ps0).toArray (c16bL ys V V7 U C C7 X Y) 75 w0 (c16bp9 ps0) := ob_move 7 66 rfl rfl (by decide) ⟨65, rfl, by decide, fun _ _ h => h⟩ (fun _ _ h => h)
set_option maxRecDepth 100000 in
theorem c16b_o10 (ps0 : String) (ys : List Nat) (V V7 U : Value) (C C7 : List Value) (X Y : Nat) (w0 : World) (hX : w0.heap[X]? = some (.cells C.toArray 111 (0, 0))) (hT : TY Try.prog 111 C V) (hY : w0.heap[Y]? = some (.cells C7.toArray 111 (0, 0))) (hT7 : TY Try.prog 111 C7 V7) (hN : ∀ w, w0.grownBy w none → Calls Try.prog 86 #[V] w fun en w' => en = .returned U ∧ w.grownBy w' none) (hS : ∀ w, w0.grownBy w none → Calls Try.prog 62 #[V7, U] w fun en w' => en = .returned (.bool true) ∧ w.grownBy w' none) : Ob Try.prog (c16bops ps0).toArray (c16bL ys V V7 U C C7 X Y) 75 w0 (c16bp10 ps0) := ob_conv 66 67 22 9 5 Try.underlying22 Try.underlying5 Try.underlying9 ys rfl rfl (by decide) ⟨65, rfl, by decide, fun _ _ h => h⟩ (fun _ _ _ h => h) (fun _ => rfl)
set_option maxRecDepth 100000 in
theorem c16b_o11 (ps0 : String) (ys : List Nat) (V V7 U : Value) (C C7 : List Value) (X Y : Nat) (w0 : World) (hX : w0.heap[X]? = some (.cells C.toArray 111 (0, 0))) (hT : TY Try.prog 111 C V) (hY : w0.heap[Y]? = some (.cells C7.toArray 111 (0, 0))) (hT7 : TY Try.prog 111 C7 V7) (hN : ∀ w, w0.grownBy w none → Calls Try.prog 86 #[V] w fun en w' => en = .returned U ∧ w.grownBy w' none) (hS : ∀ w, w0.grownBy w none → Calls Try.prog 62 #[V7, U] w fun en w' => en = .returned (.bool true) ∧ w.grownBy w' none) : Ob Try.prog (c16bops ps0).toArray (c16bL ys V V7 U C C7 X Y) 75 w0 (c16bp11 ps0) := ob_move 1 68 rfl rfl (by decide) ⟨65, rfl, by decide, fun _ _ h => h⟩ (fun _ _ h => h)
set_option maxRecDepth 100000 in
theorem c16b_o12 (ps0 : String) (ys : List Nat) (V V7 U : Value) (C C7 : List Value) (X Y : Nat) (w0 : World) (hX : w0.heap[X]? = some (.cells C.toArray 111 (0, 0))) (hT : TY Try.prog 111 C V) (hY : w0.heap[Y]? = some (.cells C7.toArray 111 (0, 0))) (hT7 : TY Try.prog 111 C7 V7) (hN : ∀ w, w0.grownBy w none → Calls Try.prog 86 #[V] w fun en w' => en = .returned U ∧ w.grownBy w' none) (hS : ∀ w, w0.grownBy w none → Calls Try.prog 62 #[V7, U] w fun en w' => en = .returned (.bool true) ∧ w.grownBy w' none) : Ob Try.prog (c16bops ps0).toArray (c16bL ys V V7 U C C7 X Y) 75 w0 (c16bp12 ps0) := ob_conv 68 69 22 9 5 Try.underlying22 Try.underlying5 Try.underlying9 ys rfl rfl (by decide) ⟨65, rfl, by decide, fun _ _ h => h⟩ (fun _ _ _ h => h) (fun _ => rfl)
set_option maxRecDepth 100000 in
theorem c16b_o13 (ps0 : String) (ys : List Nat) (V V7 U : Value) (C C7 : List Value) (X Y : Nat) (w0 : World) (hX : w0.heap[X]? = some (.cells C.toArray 111 (0, 0))) (hT : TY Try.prog 111 C V) (hY : w0.heap[Y]? = some (.cells C7.toArray 111 (0, 0))) (hT7 : TY Try.prog 111 C7 V7) (hN : ∀ w, w0.grownBy w none → Calls Try.prog 86 #[V] w fun en w' => en = .returned U ∧ w.grownBy w' none) (hS : ∀ w, w0.grownBy w none → Calls Try.prog 62 #[V7, U] w fun en w' => en = .returned (.bool true) ∧ w.grownBy w' none) : Ob Try.prog (c16bops ps0).toArray (c16bL ys V V7 U C C7 X Y) 75 w0 (c16bp13 ps0) := ob_eqS rfl rfl ⟨65, rfl, by decide, fun _ _ h => h⟩ ⟨by decide, fun _ _ h => h⟩ ⟨by decide, fun _ _ h => h⟩ rfl (fun _ => rfl)
set_option maxRecDepth 100000 in
theorem c16b_o14 (ps0 : String) (ys : List Nat) (V V7 U : Value) (C C7 : List Value) (X Y : Nat) (w0 : World) (hX : w0.heap[X]? = some (.cells C.toArray 111 (0, 0))) (hT : TY Try.prog 111 C V) (hY : w0.heap[Y]? = some (.cells C7.toArray 111 (0, 0))) (hT7 : TY Try.prog 111 C7 V7) (hN : ∀ w, w0.grownBy w none → Calls Try.prog 86 #[V] w fun en w' => en = .returned U ∧ w.grownBy w' none) (hS : ∀ w, w0.grownBy w none → Calls Try.prog 62 #[V7, U] w fun en w' => en = .returned (.bool true) ∧ w.grownBy w' none) : Ob Try.prog (c16bops ps0).toArray (c16bL ys V V7 U C C7 X Y) 75 w0 (c16bp14 ps0) := ob_pick rfl rfl trivial ⟨by decide, fun _ _ h => h⟩ ⟨by decide, fun _ _ h => h⟩ (fun _ => rfl)
set_option maxRecDepth 100000 in
theorem c16b_o15 (ps0 : String) (ys : List Nat) (V V7 U : Value) (C C7 : List Value) (X Y : Nat) (w0 : World) (hX : w0.heap[X]? = some (.cells C.toArray 111 (0, 0))) (hT : TY Try.prog 111 C V) (hY : w0.heap[Y]? = some (.cells C7.toArray 111 (0, 0))) (hT7 : TY Try.prog 111 C7 V7) (hN : ∀ w, w0.grownBy w none → Calls Try.prog 86 #[V] w fun en w' => en = .returned U ∧ w.grownBy w' none) (hS : ∀ w, w0.grownBy w none → Calls Try.prog 62 #[V7, U] w fun en w' => en = .returned (.bool true) ∧ w.grownBy w' none) : Ob Try.prog (c16bops ps0).toArray (c16bL ys V V7 U C C7 X Y) 75 w0 (c16bp15 ps0) := ob_move 71 72 rfl rfl (by decide) trivial (fun _ _ h => h)
set_option maxRecDepth 100000 in
theorem c16b_o16 (ps0 : String) (ys : List Nat) (V V7 U : Value) (C C7 : List Value) (X Y : Nat) (w0 : World) (hX : w0.heap[X]? = some (.cells C.toArray 111 (0, 0))) (hT : TY Try.prog 111 C V) (hY : w0.heap[Y]? = some (.cells C7.toArray 111 (0, 0))) (hT7 : TY Try.prog 111 C7 V7) (hN : ∀ w, w0.grownBy w none → Calls Try.prog 86 #[V] w fun en w' => en = .returned U ∧ w.grownBy w' none) (hS : ∀ w, w0.grownBy w none → Calls Try.prog 62 #[V7, U] w fun en w' => en = .returned (.bool true) ∧ w.grownBy w' none) : Ob Try.prog (c16bops ps0).toArray (c16bL ys V V7 U C C7 X Y) 75 w0 (c16bp16 ps0) := ob_call2 [] rfl rfl ⟨72, rfl, by decide, fun _ _ h => h⟩ trivial (fun w hw => (awake_walk w).mono fun e w1 ⟨he, hg⟩ => ⟨_, he, hg, rfl⟩) (enter_of Try.func18 (by kernel_rfl) rfl)
set_option maxRecDepth 100000 in
theorem c16b_o17 (ps0 : String) (ys : List Nat) (V V7 U : Value) (C C7 : List Value) (X Y : Nat) (w0 : World) (hX : w0.heap[X]? = some (.cells C.toArray 111 (0, 0))) (hT : TY Try.prog 111 C V) (hY : w0.heap[Y]? = some (.cells C7.toArray 111 (0, 0))) (hT7 : TY Try.prog 111 C7 V7) (hN : ∀ w, w0.grownBy w none → Calls Try.prog 86 #[V] w fun en w' => en = .returned U ∧ w.grownBy w' none) (hS : ∀ w, w0.grownBy w none → Calls Try.prog 62 #[V7, U] w fun en w' => en = .returned (.bool true) ∧ w.grownBy w' none) : Ob Try.prog (c16bops ps0).toArray (c16bL ys V V7 U C C7 X Y) 75 w0 (c16bp17 ps0) := ob_pick rfl rfl trivial ⟨by decide, fun _ _ h => h⟩ ⟨by decide, fun _ _ h => h⟩ (fun _ => rfl)
set_option maxRecDepth 100000 in
theorem c16b_o18 (ps0 : String) (ys : List Nat) (V V7 U : Value) (C C7 : List Value) (X Y : Nat) (w0 : World) (hX : w0.heap[X]? = some (.cells C.toArray 111 (0, 0))) (hT : TY Try.prog 111 C V) (hY : w0.heap[Y]? = some (.cells C7.toArray 111 (0, 0))) (hT7 : TY Try.prog 111 C7 V7) (hN : ∀ w, w0.grownBy w none → Calls Try.prog 86 #[V] w fun en w' => en = .returned U ∧ w.grownBy w' none) (hS : ∀ w, w0.grownBy w none → Calls Try.prog 62 #[V7, U] w fun en w' => en = .returned (.bool true) ∧ w.grownBy w' none) : Ob Try.prog (c16bops ps0).toArray (c16bL ys V V7 U C C7 X Y) 75 w0 (c16bp18 ps0) := ob_assign 74 4 rfl rfl (by decide) trivial (fun _ _ h => h)
set_option maxRecDepth 100000 in
theorem c16b_ob (ps0 : String) (ys : List Nat) (V V7 U : Value) (C C7 : List Value) (X Y : Nat) (w0 : World) (hX : w0.heap[X]? = some (.cells C.toArray 111 (0, 0))) (hT : TY Try.prog 111 C V) (hY : w0.heap[Y]? = some (.cells C7.toArray 111 (0, 0))) (hT7 : TY Try.prog 111 C7 V7) (hN : ∀ w, w0.grownBy w none → Calls Try.prog 86 #[V] w fun en w' => en = .returned U ∧ w.grownBy w' none) (hS : ∀ w, w0.grownBy w none → Calls Try.prog 62 #[V7, U] w fun en w' => en = .returned (.bool true) ∧ w.grownBy w' none) : ObAll Try.prog (c16bops ps0).toArray (c16bL ys V V7 U C C7 X Y) 75 w0 (c16bops ps0) := ⟨c16b_o0 ps0 ys V V7 U C C7 X Y w0 hX hT hY hT7 hN hS, c16b_o1 ps0 ys V V7 U C C7 X Y w0 hX hT hY hT7 hN hS, c16b_o2 ps0 ys V V7 U C C7 X Y w0 hX hT hY hT7 hN hS, c16b_o3 ps0 ys V V7 U C C7 X Y w0 hX hT hY hT7 hN hS, c16b_o4 ps0 ys V V7 U C C7 X Y w0 hX hT hY hT7 hN hS, c16b_o5 ps0 ys V V7 U C C7 X Y w0 hX hT hY hT7 hN hS, c16b_o6 ps0 ys V V7 U C C7 X Y w0 hX hT hY hT7 hN hS, c16b_o7 ps0 ys V V7 U C C7 X Y w0 hX hT hY hT7 hN hS, c16b_o8 ps0 ys V V7 U C C7 X Y w0 hX hT hY hT7 hN hS, c16b_o9 ps0 ys V V7 U C C7 X Y w0 hX hT hY hT7 hN hS, c16b_o10 ps0 ys V V7 U C C7 X Y w0 hX hT hY hT7 hN hS, c16b_o11 ps0 ys V V7 U C C7 X Y w0 hX hT hY hT7 hN hS, c16b_o12 ps0 ys V V7 U C C7 X Y w0 hX hT hY hT7 hN hS, c16b_o13 ps0 ys V V7 U C C7 X Y w0 hX hT hY hT7 hN hS, c16b_o14 ps0 ys V V7 U C C7 X Y w0 hX hT hY hT7 hN hS, c16b_o15 ps0 ys V V7 U C C7 X Y w0 hX hT hY hT7 hN hS, c16b_o16 ps0 ys V V7 U C C7 X Y w0 hX hT hY hT7 hN hS, c16b_o17 ps0 ys V V7 U C C7 X Y w0 hX hT hY hT7 hN hS, c16b_o18 ps0 ys V V7 U C C7 X Y w0 hX hT hY hT7 hN hS, trivial⟩

set_option maxRecDepth 100000 in
set_option maxHeartbeats 4000000 in
theorem codecEntries_walk (x : LE) (v s rest : Value) (ys : List Nat) (w : World) (hv : Sl w 3 v x.vers.length (x.vers.flatMap vercells) ∧ Lo v w.heap.size) (hs : Sl w 2 s x.srcs.length (x.srcs.flatMap srccells) ∧ Lo s w.heap.size) (hw : x.wf)
    (hrest : Sl w 1 rest ys.length (bv ys)) (hrsl : Lo rest w.heap.size) (hy : ∀ y ∈ ys, y < 256) :
    Calls Try.prog 16 #[leval x v s, rest] w fun en w' => en = .returned (.bool true) ∧ w.grownBy w' none := by
  obtain ⟨ao3, cap3, rfl, hnc3, hcm3⟩ := hrest.shape
  have HR := hid (And.intro hrest hrsl)
  have HY := hid hy
  clear hrest hrsl hy
  have hT := tyLE (e := x) (slice_one hv.1) (slice_one hs.1) hw.root.1
  obtain ⟨V, hV⟩ : ∃ V, V = leval x v s := ⟨_, rfl⟩
  rw [← hV] at hT
  obtain ⟨C, hC⟩ : ∃ C, C = lecells x v s := ⟨_, rfl⟩
  have hVC : leval x v s = .agg C.toArray := by rw [hC]; rfl
  rw [← hC] at hT
  have h0 : C[0]? = some (.int .i64 x.kind) := by rw [hC]; rfl
  have hb := heap_at (w := w) (o := .cells C.toArray 111) rfl
  have ga := World.grownBy_alloc w (.cells C.toArray 111) none
  have HV := hid (And.intro (hv.1.kn ga) (hv.2.mono (R' := (w.alloc (.cells C.toArray 111)).heap.size) (by simp)))
  have HS := hid (And.intro (hs.1.kn ga) (hs.2.mono (R' := (w.alloc (.cells C.toArray 111)).heap.size) (by simp)))
  have FW := hid (hV ▸ fits_walk x v s (w.alloc (.cells C.toArray 111)) (hv.1.kn ga) (hs.1.kn ga))
  have HT := hid hT
  have HB := hid hb
  have GA := hid ga
  have HW := hid hw
  have HC0 := hid h0
  have HVV := hid hV
  rw [hVC]
  clear hv hs hw hT hb ga h0 hV hC hVC
  go_enter Try.func16, Try.ntmps16
  go_wp2_with (first | (refine wpList_loadTY rfl 111 (.tmp 2) rfl rfl HT.out HB.out ?_) | fail)
  refine FW.out.mono ?_
  rintro en w1 (⟨rfl, g1⟩ | ⟨rfl, hsm, g1⟩)
  · go_wp2_with (go_at_call 18; refine (awake_walk _).mono ?_; rintro e w' ⟨rfl, hg⟩)
    go_ret
    exact ⟨rfl, grown_trans (grown_trans GA.out g1) hg⟩
  have G1 := hid (grown_trans GA.out g1)
  have hb1 := row_of g1 HB.out (by simp)
  have HV1 := hid (And.intro (HV.out.1.kn g1) (HV.out.2.mono g1.size))
  have HS1 := hid (And.intro (HS.out.1.kn g1) (HS.out.2.mono g1.size))
  have HB1 := hid hb1
  have HSM := hid hsm
  have SML := hid (show x.small from ⟨by have := hsm.req; omega, ⟨by have := hsm.lnka; omega, by have := hsm.lnkb; omega⟩, by have := hsm.hld; omega, by have := hsm.vers; omega, by have := hsm.srcs; omega⟩)
  have c0 : w1.cell? ⟨w.heap.size, 0, none⟩ = some (.int .i64 x.kind) := by rw [cell_of_row _ _ _ _ _ _ hb1]; simpa using HC0.out
  have HC1 := hid c0
  clear g1 hsm hb1 c0
  by_cases h3 : 100 < ys.length
  · have d3 : decide (100 < ys.length) = true := decide_eq_true h3
    go_wp2_with (go_at_call 18; refine (awake_walk _).mono ?_; rintro e w' ⟨rfl, hg⟩)
    go_ret
    exact ⟨rfl, grown_trans G1.out hg⟩
  have d3 : decide (100 < ys.length) = false := decide_eq_false h3
  have hL := encLE_len x HW.out HSM.out
  have hL2 : (encLE x).length ≤ 20000000 := encLE_len2 x HW.out HSM.out
  have HL := hid hL
  have HL2 := hid hL2
  have HBY := hid (encLE_byte x HW.out)
  clear hL hL2
  go_wp2_with (first | (refine wpList_loadTY rfl 111 (.tmp 2) rfl rfl HT.out HB1.out ?_) | fail)
  rw [HVV.out]
  refine (appendEntry_walk x v s w1 HV1.out HS1.out HW.out SML.out HL.out).mono ?_
  rintro en w2 ⟨v2, rfl, hown2, hf2⟩
  have O2 := hid hown2
  have G2 := hid (Step.none hf2)
  clear hown2 hf2
  go_wp2_with fail
  refine (join_walk _ _ (encLE x) ys _ (Sl.of_own O2.out) (HR.out.1.kn (grown_trans G1.out G2.out)) (by have := HL2.out; omega)).mono ?_
  rintro e w6 ⟨v6, rfl, hown6, hf6⟩
  have G6 := hid (Step.none hf6)
  have hlo6 : Lo v6 w6.heap.size := fun k hk => Own.lt hown6 k hk
  have O6 := hid (And.intro hown6 hlo6)
  clear hown6 hf6 hlo6
  go_wp2_with fail
  have hx := rdxEntry_walk v6 (encLE x ++ ys) w6 (Sl.of_own O6.out.1) (by have := HL2.out; rw [List.length_append]; omega) (app_byte HBY.out HY.out) O6.out.2
  refine hx.mono ?_
  intro en w7 h7
  by_cases hk : 1 ≤ x.kind ∧ x.kind ≤ 7
  · have hcd := cd_LE x HW.out HSM.out.fits hk.1 hk.2
    have d1 : decide (x.kind < 1) = false := decide_eq_false (by omega)
    have d7 : decide (7 < x.kind) = false := decide_eq_false (by omega)
    clear hk
    obtain ⟨g7, m7, rv7, rfl, hrep7, hs7, _⟩ := h7.ok (hcd.rt ys)
    obtain ⟨ao7, cap7, rfl, _, _⟩ := hs7.shape
    obtain ⟨vs, ss, rfl, hrv, hrs, hrr, _⟩ := hrep7
    have S7 := hid hs7
    have RV := hid hrv.sl
    have RS := hid hrs.sl
    have RR := hid hrr
    have G67 := hid (grown_trans G6.out g7)
    have hT7 := tyLE (e := x.norm) (slice_one hrv.1) (slice_one hrs.1) hrr
    have hL7 := lecells_len x.norm vs ss hrr
    clear hx h7 hs7 hrv hrs hrr g7 hcd
    obtain ⟨V7, hV7⟩ : ∃ V7, V7 = leval x.norm vs ss := ⟨_, rfl⟩
    rw [← hV7] at hT7 ⊢
    generalize lecells x.norm vs ss = C7 at *
    have HT7 := hid hT7
    have HV7 := hid hV7
    have HL7 := hid hL7
    clear hT7 hV7 hL7
    go_wp2_with (first | (refine wpList_storeTYg rfl 111 (.tmp 6) (.tmp 25) rfl rfl rfl HT7.out (heap_at rfl) (by rw [HL7.out]; simp) ?_; intro w8 hg8 hb8; have g8 := grown_newR (World.grownBy_alloc w7 _ none) hg8 (Nat.le_refl _); have G8 := hid g8; have B8 := hid hb8; clear hg8 hb8 g8) | fail)
    have G28 := hid (grown_trans (grown_trans G2.out G67.out) G8.out)
    have GT := hid (grown_trans G1.out G28.out)
    have hX := row_of G28.out HB1.out (by simp)
    have BX := hid hX
    have h5 := (Sl.of_own O2.out).kn (grown_trans G67.out G8.out)
    refine region_listF mixed (c16aL (encLE x) V C w.heap.size) _ (c16a_reg _) (c16a_m _) ?_ ?_ (c16a_ob _ (encLE x) V C w.heap.size _ hX HT.out (fun w9 h9 => HVV.out ▸ refEntry_walk v s x w9 ⟨HV1.out.1.kn (grown_trans G28.out h9), HV1.out.2.mono (grown_trans G28.out h9).size⟩ ⟨HS1.out.1.kn (grown_trans G28.out h9), HS1.out.2.mono (grown_trans G28.out h9).size⟩ HW.out SML.out)) ?_
    · rfl
    · exact ⟨.inr trivial, .inr trivial, .inr rfl, .inr trivial, .inr trivial, .inr h5, .inr trivial, .inr trivial, .inr trivial, .inr trivial, .inr trivial, .inr trivial, .inr trivial, .inr trivial, .inr trivial, .inr trivial, .inr trivial, .inr trivial, .inr trivial, .inr trivial, .inr trivial, .inr trivial, .inr trivial, .inr trivial, .inr trivial, .inr trivial, .inr trivial, .inr trivial, .inl rfl, .inl rfl, .inl rfl, .inl rfl, .inl rfl, .inl rfl, .inr trivial, .inr trivial, .inr trivial, .inr trivial, .inr trivial, .inr trivial, .inr trivial, .inr trivial, .inr trivial, .inr trivial, .inr trivial, .inr trivial, .inr trivial, .inr trivial, .inr trivial, .inr trivial, .inr trivial, .inr trivial, .inr trivial, .inr trivial, .inr trivial, .inr trivial, .inr trivial, .inr trivial, .inr trivial, .inr trivial, .inr trivial, .inr trivial, .inr trivial, .inr trivial, .inr trivial, .inr trivial, .inr trivial, .inr trivial, .inr trivial, .inr trivial, .inr trivial, .inr trivial, .inr trivial, .inr trivial, .inr trivial, trivial⟩
    intro y w9 hg9 hk9
    have y33 : y 33 = .bool false := hk9 33 (by show 33 < 75; decide)
    simp only [frameOf, Bool.false_eq_true, if_false, if_true]
    rw [y33]
    have G9 := hid hg9
    have c0 : w9.cell? ⟨w.heap.size, 0, none⟩ = some (.int .i64 x.kind) := by rw [cell_of_row _ _ _ _ _ _ (row_of hg9 BX.out (by simp))]; simpa using HC0.out
    clear hk9 hg9 y33 hX h5
    go_wp2_with fail
    have gA := grown_trans G28.out G9.out
    have gB := grown_trans G8.out G9.out
    have hX := row_of gA HB1.out (by simp)
    have hY := row_of G9.out B8.out (by simp)
    have h7 := S7.out.kn gB
    have h1 := HR.out.1.kn (grown_trans G1.out gA)
    refine region_list mixed (c16bL ys V V7 (leval x.norm (if x.kind = 2 then v else nilS) (if x.kind = 2 then s else nilS)) C C7 w.heap.size w7.heap.size) _ (c16b_reg _) (c16b_m _) rfl ⟨.inr trivial, .inr h1, .inr rfl, .inr trivial, .inl rfl, .inr trivial, .inr rfl, .inr h7, .inr rfl, .inr trivial, .inr trivial, .inr trivial, .inr trivial, .inr trivial, .inr trivial, .inr trivial, .inr trivial, .inr trivial, .inr trivial, .inr trivial, .inr trivial, .inr trivial, .inr trivial, .inr trivial, .inr trivial, .inr trivial, .inr trivial, .inr trivial, .inr trivial, .inr trivial, .inr trivial, .inr trivial, .inr trivial, .inr trivial, .inr trivial, .inr trivial, .inr trivial, .inr trivial, .inr trivial, .inr trivial, .inr trivial, .inr trivial, .inr trivial, .inr trivial, .inr trivial, .inr trivial, .inr trivial, .inr trivial, .inr trivial, .inr trivial, .inr trivial, .inr trivial, .inr trivial, .inr trivial, .inr trivial, .inr trivial, .inr trivial, .inl rfl, .inl rfl, .inl rfl, .inl rfl, .inl rfl, .inl rfl, .inl rfl, .inl rfl, .inl rfl, .inl rfl, .inl rfl, .inl rfl, .inl rfl, .inl rfl, .inl rfl, .inl rfl, .inl rfl, .inl rfl, trivial⟩ (c16b_ob _ ys V V7 (leval x.norm (if x.kind = 2 then v else nilS) (if x.kind = 2 then s else nilS)) C C7 w.heap.size w7.heap.size _ hX HT.out hY HT7.out (fun w5 h5 => HVV.out ▸ normal_walk x v s w5 (HV1.out.1.kn (grown_trans gA h5)) (HS1.out.1.kn (grown_trans gA h5)) HW.out.root.1) (fun w5 h5 => HV7.out ▸ sameEntry_walk x.norm vs ss _ _ w5 (RV.out.kn (grown_trans gB h5)) (RS.out.kn (grown_trans gB h5)) (norm_vers x v ((HV1.out.1.kn (grown_trans gA h5)))) (norm_srcs x s ((HS1.out.1.kn (grown_trans gA h5)))) RR.out)) ?_
    intro a w10 hg10 hd10 hsz hk
    have h4 := hk 4 (by show 4 < 75; decide)
    go_wp2
    refine bodyPost_ret (results_tmp rfl _ _ _) hd10 ?_
    exact ⟨congrArg _ h4, grown_trans (grown_trans G1.out gA) hg10⟩
  · have hkk : x.kind < 1 ∨ 7 < x.kind := by omega
    have hp := pLE_bad HW.out hkk ys
    unfold ReadPost at h7
    rw [hp] at h7
    obtain ⟨g7, rfl, _⟩ := h7
    have G67 := hid (grown_trans G6.out g7)
    have KK := hid hkk
    clear hx hp g7 hk hkk
    obtain ⟨Z, hZ⟩ : ∃ Z : Value, Z = .agg Try.zeroCells111 := ⟨_, rfl⟩
    rw [← hZ]
    have TZ := hid (show TY Try.prog 111 leZ Z from hZ ▸ ztyLE)
    have HZ := hid hZ
    clear hZ
    go_wp2_with (first | (refine wpList_storeTYg rfl 111 (.tmp 6) (.tmp 25) rfl rfl rfl TZ.out (heap_at rfl) (by rw [leZ_len]; rfl) ?_; intro w8 g8 hb8; have B8 := hid hb8; have G8 := hid (grown_newR (World.grownBy_alloc w7 _ none) g8 (Nat.le_refl _)); clear g8 hb8) | fail)
    have G28 := hid (grown_trans (grown_trans G2.out G67.out) G8.out)
    have hX := row_of G28.out HB1.out (by simp)
    have BX := hid hX
    have h5 := (Sl.of_own O2.out).kn (grown_trans G67.out G8.out)
    refine region_listF mixed (c16aL (encLE x) V C w.heap.size) _ (c16a_reg _) (c16a_m _) ?_ ?_ (c16a_ob _ (encLE x) V C w.heap.size _ hX HT.out (fun w9 h9 => HVV.out ▸ refEntry_walk v s x w9 ⟨HV1.out.1.kn (grown_trans G28.out h9), HV1.out.2.mono (grown_trans G28.out h9).size⟩ ⟨HS1.out.1.kn (grown_trans G28.out h9), HS1.out.2.mono (grown_trans G28.out h9).size⟩ HW.out SML.out)) ?_
    · rfl
    · exact ⟨.inr trivial, .inr trivial, .inr rfl, .inr trivial, .inr trivial, .inr h5, .inr trivial, .inr trivial, .inr trivial, .inr trivial, .inr trivial, .inr trivial, .inr trivial, .inr trivial, .inr trivial, .inr trivial, .inr trivial, .inr trivial, .inr trivial, .inr trivial, .inr trivial, .inr trivial, .inr trivial, .inr trivial, .inr trivial, .inr trivial, .inr trivial, .inr trivial, .inl rfl, .inl rfl, .inl rfl, .inl rfl, .inl rfl, .inl rfl, .inr trivial, .inr trivial, .inr trivial, .inr trivial, .inr trivial, .inr trivial, .inr trivial, .inr trivial, .inr trivial, .inr trivial, .inr trivial, .inr trivial, .inr trivial, .inr trivial, .inr trivial, .inr trivial, .inr trivial, .inr trivial, .inr trivial, .inr trivial, .inr trivial, .inr trivial, .inr trivial, .inr trivial, .inr trivial, .inr trivial, .inr trivial, .inr trivial, .inr trivial, .inr trivial, .inr trivial, .inr trivial, .inr trivial, .inr trivial, .inr trivial, .inr trivial, .inr trivial, .inr trivial, .inr trivial, .inr trivial, .inr trivial, trivial⟩
    intro y w9 hg9 hk9
    have y33 : y 33 = .bool false := hk9 33 (by show 33 < 75; decide)
    simp only [frameOf, Bool.false_eq_true, if_false, if_true]
    rw [y33]
    have G9 := hid hg9
    have B9 := hid (row_of hg9 B8.out (by simp))
    have c0 : w9.cell? ⟨w.heap.size, 0, none⟩ = some (.int .i64 x.kind) := by rw [cell_of_row _ _ _ _ _ _ (row_of hg9 BX.out (by simp))]; simpa using HC0.out
    clear hk9 hg9 y33 hX h5
    have GT := hid (grown_trans G1.out (grown_trans G28.out G9.out))
    by_cases h1 : x.kind < 1
    · have d1 : decide (x.kind < 1) = true := decide_eq_true h1
      clear h1
      go_wp2_with (first | (refine wpList_loadG rfl 111 (.tmp 6) rfl rfl TZ.out (rangeAt_row B9.out) ?_) | fail)
      rw [HZ.out]
      refine (zeros_same _).mono ?_
      rintro en w5 ⟨rfl, g5⟩
      have G5 := hid (grown_trans GT.out g5)
      clear g5
      unfold nilS
      go_wp2_with (go_at_call 18; refine (awake_walk _).mono ?_; rintro e w' ⟨rfl, hg⟩)
      go_ret
      exact ⟨rfl, grown_trans G5.out hg⟩
    · have d1 : decide (x.kind < 1) = false := decide_eq_false h1
      have d7 : decide (7 < x.kind) = true := decide_eq_true (by have := KK.out; omega)
      clear h1
      go_wp2_with (first | (refine wpList_loadG rfl 111 (.tmp 6) rfl rfl TZ.out (rangeAt_row B9.out) ?_) | fail)
      rw [HZ.out]
      refine (zeros_same _).mono ?_
      rintro en w5 ⟨rfl, g5⟩
      have G5 := hid (grown_trans GT.out g5)
      clear g5
      unfold nilS
      go_wp2_with (go_at_call 18; refine (awake_walk _).mono ?_; rintro e w' ⟨rfl, hg⟩)
      go_ret
      exact ⟨rfl, grown_trans G5.out hg⟩

end Go.Proofs.Ytkeiffccllfkpaa
