/- The law CodecTexts: the walk. -/
import Derived.Test.YtkeiffccllfkpaaText
namespace Go.Proofs.Ytkeiffccllfkpaa
open Go.RowKit
set_option linter.unusedVariables false
def c6p0 (ps0 : String) : Oper := { dst := some 32, op := Go.Op.move (Go.Operand.tmp 7), type := 22, pos := ps0, after := #[], guard := none }
def c6p1 (ps0 : String) : Oper := { dst := some 33, op := Go.Op.convert 22 9 (Go.Operand.tmp 32), type := 9, pos := ps0, after := #[{ on := 0, ground := Go.Ground.data }], guard := none }
def c6p2 (ps0 : String) : Oper := { dst := some 34, op := Go.Op.move (Go.Operand.tmp 0), type := 9, pos := ps0, after := #[], guard := none }
def c6p3 (ps0 : String) : Oper := { dst := some 35, op := Go.Op.call { callee := Go.Callee.value (Go.Operand.func 26), args := #[Go.Operand.tmp 34], argTypes := #[9] }, type := 22, pos := ps0, after := #[{ on := 2, ground := Go.Ground.data }], guard := none }
def c6p4 (ps0 : String) : Oper := { dst := some 36, op := Go.Op.convert 22 9 (Go.Operand.tmp 35), type := 9, pos := ps0, after := #[{ on := 3, ground := Go.Ground.data }], guard := none }
def c6p5 (ps0 : String) : Oper := { dst := some 37, op := Go.Op.binOp Go.BinOp.neq 9 (Go.Operand.tmp 33) (Go.Operand.tmp 36) 9, type := 4, pos := ps0, after := #[{ on := 1, ground := Go.Ground.data }, { on := 4, ground := Go.Ground.data }], guard := none }
def c6ops (ps0 : String) : List Oper := [c6p0 ps0, c6p1 ps0, c6p2 ps0, c6p3 ps0, c6p4 ps0, c6p5 ps0]
def c6F (s : ByteArray) : List Value := [(.string s), undef, undef, undef, undef, undef, undef, undef, undef, undef, undef, undef, undef, undef, undef, undef, undef, undef, undef, undef, undef, undef, undef, undef, undef, undef, undef, undef, undef, undef, undef, undef, undef, (.string (bs ([] ++ encT s))), (.string s), undef, (.string (bs (encT s))), (.bool false), undef, undef, undef, undef, undef, undef, undef, undef, undef, undef, undef, undef, undef, undef, undef, undef, undef, undef, undef, undef, undef, undef, undef, undef, undef, undef, undef, undef, undef, undef, undef, undef, undef, undef, undef]
def c6L (s : ByteArray) : List Sp := [Sp.is (.string s), Sp.any, Sp.any, Sp.any, Sp.any, Sp.any, Sp.any, Sp.sl ([] ++ encT s), Sp.any, Sp.any, Sp.any, Sp.any, Sp.any, Sp.any, Sp.any, Sp.any, Sp.any, Sp.any, Sp.any, Sp.any, Sp.any, Sp.any, Sp.any, Sp.any, Sp.any, Sp.any, Sp.any, Sp.any, Sp.any, Sp.any, Sp.any, Sp.any, Sp.sl ([] ++ encT s), Sp.is (.string (bs ([] ++ encT s))), Sp.is (.string s), Sp.sl (encT s), Sp.is (.string (bs (encT s))), Sp.is (.bool false), Sp.any, Sp.any, Sp.any, Sp.any, Sp.any, Sp.any, Sp.any, Sp.any, Sp.any, Sp.any, Sp.any, Sp.any, Sp.any, Sp.any, Sp.any, Sp.any, Sp.any, Sp.any, Sp.any, Sp.any, Sp.any, Sp.any, Sp.any, Sp.any, Sp.any, Sp.any, Sp.any, Sp.any, Sp.any, Sp.any, Sp.any, Sp.any, Sp.any, Sp.any, Sp.any]
theorem c6_reg (ps0 : String) : regB (c6ops ps0).toArray 73 = true := by kernel_rfl
theorem c6_m (ps0 : String) : dstsB (c6ops ps0) 73 = [false, false, false, false, false, false, false, false, false, false, false, false, false, false, false, false, false, false, false, false, false, false, false, false, false, false, false, false, false, false, false, false, true, true, true, true, true, true, false, false, false, false, false, false, false, false, false, false, false, false, false, false, false, false, false, false, false, false, false, false, false, false, false, false, false, false, false, false, false, false, false, false, false] := by kernel_rfl
set_option maxRecDepth 100000 in
theorem c6_o0 (ps0 : String) (s : ByteArray) (w0 : World) (hs : s.size ≤ 1099511000000) : Ob Try.prog (c6ops ps0).toArray (c6L s) 73 w0 (c6p0 ps0) := ob_move 7 32 rfl rfl (by decide) trivial (fun _ _ h => h)
set_option maxRecDepth 100000 in
theorem c6_o1 (ps0 : String) (s : ByteArray) (w0 : World) (hs : s.size ≤ 1099511000000) : Ob Try.prog (c6ops ps0).toArray (c6L s) 73 w0 (c6p1 ps0) := ob_conv 32 33 22 9 5 Try.underlying22 Try.underlying5 Try.underlying9 ([] ++ encT s) rfl rfl (by decide) trivial (fun _ _ _ h => h) (fun _ => rfl)
set_option maxRecDepth 100000 in
theorem c6_o2 (ps0 : String) (s : ByteArray) (w0 : World) (hs : s.size ≤ 1099511000000) : Ob Try.prog (c6ops ps0).toArray (c6L s) 73 w0 (c6p2 ps0) := ob_move 0 34 rfl rfl (by decide) trivial (fun _ _ h => h)
set_option maxRecDepth 100000 in
theorem c6_o3 (ps0 : String) (s : ByteArray) (w0 : World) (hs : s.size ≤ 1099511000000) : Ob Try.prog (c6ops ps0).toArray (c6L s) 73 w0 (c6p3 ps0) := ob_call2 [(.string s)] rfl rfl trivial ⟨⟨by decide, fun _ _ h => h⟩, trivial⟩ (fun w hw => (refText_walk s w hs).mono fun e w1 ⟨v, he, ho, hf⟩ => ⟨v, he, hf.1, Sl.of_own ho⟩) (enter_of Try.func26 (by kernel_rfl) rfl)
set_option maxRecDepth 100000 in
theorem c6_o4 (ps0 : String) (s : ByteArray) (w0 : World) (hs : s.size ≤ 1099511000000) : Ob Try.prog (c6ops ps0).toArray (c6L s) 73 w0 (c6p4 ps0) := ob_conv 35 36 22 9 5 Try.underlying22 Try.underlying5 Try.underlying9 (encT s) rfl rfl (by decide) trivial (fun _ _ _ h => h) (fun _ => rfl)
set_option maxRecDepth 100000 in
theorem c6_o5 (ps0 : String) (s : ByteArray) (w0 : World) (hs : s.size ≤ 1099511000000) : Ob Try.prog (c6ops ps0).toArray (c6L s) 73 w0 (c6p5 ps0) := ob_neS rfl rfl trivial ⟨by decide, fun _ _ h => h⟩ ⟨by decide, fun _ _ h => h⟩ rfl (fun _ => rfl)
set_option maxRecDepth 100000 in
theorem c6_ob (ps0 : String) (s : ByteArray) (w0 : World) (hs : s.size ≤ 1099511000000) : ObAll Try.prog (c6ops ps0).toArray (c6L s) 73 w0 (c6ops ps0) := ⟨c6_o0 ps0 s w0 hs, c6_o1 ps0 s w0 hs, c6_o2 ps0 s w0 hs, c6_o3 ps0 s w0 hs, c6_o4 ps0 s w0 hs, c6_o5 ps0 s w0 hs, trivial⟩

theorem pText_big {most : Int} {s : ByteArray} {r : List Nat} (h : most < (s.size : Int)) (hs : (s.size : Int) ≤ 9223372036854775807) : pText most (encT s ++ r) = .error 1 := by
  have c := cd_int (n := (s.size : Int)) ⟨by omega, hs⟩
  unfold pText pBind pIntIn encT
  rw [List.append_assoc, c.rt]
  simp only
  rw [if_pos (.inr h)]
theorem encT_byte (s : ByteArray) : ∀ b ∈ encT s, b < 256 := fun b hb => by
  unfold encT at hb
  rcases List.mem_append.1 hb with h | h
  · exact enc_byte _ b h
  · exact by_lt s b h
set_option maxRecDepth 100000 in
set_option maxHeartbeats 1000000 in
theorem codecTexts_walk (s : ByteArray) (most : Int) (rest : Value) (ys : List Nat) (w : World) (hrest : Sl w 1 rest ys.length (bv ys)) (hm : I64 most) (hy : ∀ y ∈ ys, y < 256) :
    Calls Try.prog 6 #[.string s, .int .i64 most, rest] w fun e w' => e = .returned (.bool true) ∧ w.grownBy w' none := by
  obtain ⟨ao2, cap2, rfl, hnc2, hcm2⟩ := hrest.shape
  have HR := hid hrest
  have HY := hid hy
  clear hrest hy
  by_cases h1 : 200 < s.size
  · have d1 : decide (200 < s.size) = true := decide_eq_true h1
    go_enter Try.func6, Try.ntmps6
    go_wp2_with (go_at_call 18; refine (awake_walk _).mono ?_; rintro e w' ⟨rfl, hg⟩)
    go_ret
    exact ⟨rfl, hg⟩
  have d1 : decide (200 < s.size) = false := decide_eq_false h1
  by_cases h2 : 100 < ys.length
  · have d2 : decide (100 < ys.length) = true := decide_eq_true h2
    go_enter Try.func6, Try.ntmps6
    go_wp2_with (go_at_call 18; refine (awake_walk _).mono ?_; rintro e w' ⟨rfl, hg⟩)
    go_ret
    exact ⟨rfl, hg⟩
  have d2 : decide (100 < ys.length) = false := decide_eq_false h2
  have hs : s.size ≤ 1099511000000 := by omega
  have hel := encT_len s (by omega)
  go_enter Try.func6, Try.ntmps6
  go_wp2_with fail
  refine (appendText_walk _ s [] _ (Sl.nil _ _) (fun k hk => by simp [Value.ownBlock] at hk) (by simp; omega)).mono ?_
  rintro e w1 ⟨v1, rfl, hown1, hg1⟩
  have HO1 := hid hown1
  clear hown1
  go_wp2_with fail
  refine (refText_walk s _ hs).mono ?_
  rintro e w2 ⟨v2, rfl, hown2, hg2⟩
  have G2 := grown_trans hg1.1 hg2.1
  have hr2 := HR.out.kept G2 (by cases (Value.slice ao2 ys.length cap2).ownBlock <;> simp [Value.ownBlock])
  have HO2 := hid hown2
  clear hown2
  go_wp2_with fail
  refine (join_walk _ _ (encT s) ys _ (Sl.of_own HO2.out) hr2 (by omega)).mono ?_
  rintro e w3 ⟨v3, rfl, hown3, hg3⟩
  have G3 := grown_trans G2 hg3.1
  have hlo3 : Lo v3 w3.heap.size := fun k hk => (Own.lt hown3 k hk)
  have HO3 := hid hown3
  clear hown3 hr2
  go_wp2_with fail
  refine (readText_walk _ most (encT s ++ ys) _ (Sl.of_own HO3.out) (by rw [List.length_append]; omega) (fun x hx => by rcases List.mem_append.1 hx with h | h; exact encT_byte s x h; exact HY.out x h) hlo3 hm).mono ?_
  intro e w4 h4
  have g4 := h4.1
  have G4 := grown_trans G3 g4
  have g14 := grown_trans hg2.1 (grown_trans hg3.1 g4)
  have hx := (Sl.of_own HO1.out).kept g14 (by cases v1.ownBlock <;> simp [Value.ownBlock])
  have hrest := HR.out.kept G4 (by cases (Value.slice ao2 ys.length cap2).ownBlock <;> simp [Value.ownBlock])
  have HX := hid hx
  have HRT := hid hrest
  clear hlo3 hx hrest g14 g4 G3 G2 hg1 hg2 hg3
  by_cases hms : most < (s.size : Int)
  · obtain ⟨_, rfl⟩ := h4.err (pText_big hms (by omega))
    have d3 : decide (most < (s.size : Int)) = true := decide_eq_true hms
    clear h4
    go_wp2_with fail
    refine region_listF mixed (c6L s) _ (c6_reg _) (c6_m _) ?_ ?_ (c6_ob _ s _ hs) ?_
    · rfl
    · exact ⟨.inr rfl, .inr trivial, .inr trivial, .inr trivial, .inr trivial, .inr trivial, .inr trivial, .inr HX.out, .inr trivial, .inr trivial, .inr trivial, .inr trivial, .inr trivial, .inr trivial, .inr trivial, .inr trivial, .inr trivial, .inr trivial, .inr trivial, .inr trivial, .inr trivial, .inr trivial, .inr trivial, .inr trivial, .inr trivial, .inr trivial, .inr trivial, .inr trivial, .inr trivial, .inr trivial, .inr trivial, .inr trivial, .inl rfl, .inl rfl, .inl rfl, .inl rfl, .inl rfl, .inl rfl, .inr trivial, .inr trivial, .inr trivial, .inr trivial, .inr trivial, .inr trivial, .inr trivial, .inr trivial, .inr trivial, .inr trivial, .inr trivial, .inr trivial, .inr trivial, .inr trivial, .inr trivial, .inr trivial, .inr trivial, .inr trivial, .inr trivial, .inr trivial, .inr trivial, .inr trivial, .inr trivial, .inr trivial, .inr trivial, .inr trivial, .inr trivial, .inr trivial, .inr trivial, .inr trivial, .inr trivial, .inr trivial, .inr trivial, .inr trivial, .inr trivial, trivial⟩
    intro x w6 hg6 hk
    simp only [frameOf, Bool.false_eq_true, if_false, if_true]
    have h37 : x 37 = .bool false := hk 37 (by show 37 < 73; decide)
    rw [h37]
    clear h37 hk

    go_wp2_with (go_at_call 18; refine (awake_walk _).mono ?_; rintro e w' ⟨rfl, hg⟩)
    go_ret
    exact ⟨rfl, grown_trans (grown_trans G4 hg6) hg⟩
  · obtain ⟨_, v4, rv4, rfl, ⟨rfl, _⟩, hs4, _⟩ := h4.ok ((cd_text s (most := most) (by omega) (by omega)).rt ys)
    have d3 : decide (most < (s.size : Int)) = false := decide_eq_false hms
    obtain ⟨ao5, cap5, rfl, _, _⟩ := hs4.shape
    have HS4 := hid hs4
    clear h4 hs4
    go_wp2_with fail
    refine region_listF mixed (c6L s) _ (c6_reg _) (c6_m _) ?_ ?_ (c6_ob _ s _ hs) ?_
    · rfl
    · exact ⟨.inr rfl, .inr trivial, .inr trivial, .inr trivial, .inr trivial, .inr trivial, .inr trivial, .inr HX.out, .inr trivial, .inr trivial, .inr trivial, .inr trivial, .inr trivial, .inr trivial, .inr trivial, .inr trivial, .inr trivial, .inr trivial, .inr trivial, .inr trivial, .inr trivial, .inr trivial, .inr trivial, .inr trivial, .inr trivial, .inr trivial, .inr trivial, .inr trivial, .inr trivial, .inr trivial, .inr trivial, .inr trivial, .inl rfl, .inl rfl, .inl rfl, .inl rfl, .inl rfl, .inl rfl, .inr trivial, .inr trivial, .inr trivial, .inr trivial, .inr trivial, .inr trivial, .inr trivial, .inr trivial, .inr trivial, .inr trivial, .inr trivial, .inr trivial, .inr trivial, .inr trivial, .inr trivial, .inr trivial, .inr trivial, .inr trivial, .inr trivial, .inr trivial, .inr trivial, .inr trivial, .inr trivial, .inr trivial, .inr trivial, .inr trivial, .inr trivial, .inr trivial, .inr trivial, .inr trivial, .inr trivial, .inr trivial, .inr trivial, .inr trivial, .inr trivial, trivial⟩
    intro x w6 hg6 hk
    simp only [frameOf, Bool.false_eq_true, if_false, if_true]
    have h37 : x 37 = .bool false := hk 37 (by show 37 < 73; decide)
    rw [h37]
    clear h37 hk

    have hc1 := run_conv (P := Try.prog) 22 9 5 Try.underlying22 Try.underlying5 Try.underlying9 (HS4.out.kept hg6 (by cases (Value.slice ao5 ys.length cap5).ownBlock <;> simp))
    have hc2 := run_conv (P := Try.prog) 22 9 5 Try.underlying22 Try.underlying5 Try.underlying9 (HRT.out.kept hg6 (by cases (Value.slice ao2 ys.length cap2).ownBlock <;> simp))
    go_wp2_with (go_at_call 18; refine (awake_walk _).mono ?_; rintro e w' ⟨rfl, hg⟩)
    go_ret
    exact ⟨rfl, grown_trans (grown_trans G4 hg6) hg⟩
end Go.Proofs.Ytkeiffccllfkpaa
