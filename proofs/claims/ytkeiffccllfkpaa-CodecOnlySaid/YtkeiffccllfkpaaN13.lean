/- The reference's Bag; bags of equal entries compared. -/
import Derived.Test.YtkeiffccllfkpaaN6
namespace Go.Proofs.Ytkeiffccllfkpaa
open Go.RowKit
set_option linter.unusedSimpArgs false

theorem tyRowV {w : World} {v : Value} {n m : Nat} {xs : List Value} (h : Sl w n v m xs) : TY Try.prog 60 [v] v := tyRow h
theorem enterRRow : ∀ (av : Array Value) (w : World), ((Deferred.ofValue (.func (.func 44) #[] #[]) av).run Try.prog w).andThen (fun a w' => (invoke a.target a.args).run Try.prog w') = .ok (.enter 44 av) w := enter_of Try.func44 (by kernel_rfl) rfl
theorem enterRInt : ∀ (av : Array Value) (w : World), ((Deferred.ofValue (.func (.func 22) #[] #[]) av).run Try.prog w).andThen (fun a w' => (invoke a.target a.args).run Try.prog w') = .ok (.enter 22 av) w := enter_of Try.func22 (by kernel_rfl) rfl
theorem enterCRow : ∀ (av : Array Value) (w : World), ((Deferred.ofValue (.func (.func 46) #[] #[]) av).run Try.prog w).andThen (fun a w' => (invoke a.target a.args).run Try.prog w') = .ok (.enter 46 av) w := enter_of Try.func46 (by kernel_rfl) rfl
theorem row_call {B : Nat} {w wr : World} {r : Value} {l : List V} (h : DRow B w r l) (hB : B ≤ w.heap.size) (g : w.grownBy wr none) (hl : l.length ≤ 1000000) :
    Calls Try.prog 44 #[r] wr.drew fun e w3 => ∃ v, e = .returned v ∧ Hid (Own w3 5 1 v (encRow l).length (bv (encRow l)) ∧ wr.grownBy w3 none) := by
  have g2 := grown_trans g (grown_drew wr)
  refine (refRow_walk r l wr.drew ((h.grown g2).mono (Nat.le_trans hB g2.size)) hl).mono ?_
  rintro e w3 ⟨v3, rfl, ho, hf⟩
  exact ⟨v3, rfl, hid ⟨ho, grown_trans (grown_drew wr) (Step.none hf)⟩⟩
theorem int_call {w : World} {n : Int} (h : I64 n) :
    Calls Try.prog 22 #[.int .i64 n] w fun e w3 => ∃ v, e = .returned v ∧ Hid (Own w3 5 1 v (enc n).length (bv (enc n)) ∧ w.grownBy w3 none) := by
  refine (refInt_walk n w h.1 h.2).mono ?_
  rintro e w3 ⟨v3, rfl, ho, hf⟩
  exact ⟨v3, rfl, hid ⟨ho, Step.none hf⟩⟩
theorem clean_call {B : Nat} {w wr : World} {r : Value} {l : List V} (h : DRow B w r l) (hB : B ≤ w.heap.size) (g : w.grownBy wr none) (hl : l.length ≤ 1000000) :
    Calls Try.prog 46 #[r] wr.drew fun e w3 => ∃ ao cap, e = .returned (.slice ao l.length cap) ∧ Hid (Own w3 67 3 (.slice ao l.length cap) l.length ((l.map V.clean).flatMap vcells) ∧ Fresh wr w3 (.slice ao l.length cap)) := by
  have g2 := grown_trans g (grown_drew wr)
  refine (cleanRow_walk r l wr.drew ((h.grown g2).mono (Nat.le_trans hB g2.size)) hl).mono ?_
  rintro e w3 ⟨v3, rfl, ho, hf⟩
  rw [List.length_map] at ho
  obtain ⟨ao, cap, rfl, _, _⟩ := (Sl.of_own ho).shape
  exact ⟨ao, cap, rfl, hid ⟨ho, hf.drew⟩⟩
set_option maxRecDepth 100000 in
set_option maxHeartbeats 1000000 in
theorem refBag_walk (s : Value) (ps : List (Value × En)) (w : World) (hs : DBag w.heap.size w s ps) (hw : ∀ p ∈ ps, p.2.row.length ≤ 16 ∧ I64 p.2.count) (hl : ps.length ≤ 100000) :
    Calls Try.prog 49 #[s] w fun e w' => ∃ v, e = .returned v ∧ Own w' 5 1 v (encBag (ps.map (·.2))).length (bv (encBag (ps.map (·.2)))) ∧ Fresh w w' v := by
  obtain ⟨ao, cap, rfl, hnc, hcm⟩ := hs.1.shape
  have HS := hid hs
  have HW := hid hw
  clear hs hw
  go_enter Try.func49, Try.ntmps49
  go_wp2_with fail
  refine (refInt_walk (ps.length : Int) w (by omega) (by omega)).mono ?_
  rintro e w1 ⟨v1, rfl, hown1, hst1⟩
  have hel := enc_len (n := (ps.length : Int)) (by omega) (by omega)
  have HE := hid hel
  clear hel
  go_wp2
  go_loopw [3, 4] (fun b i wr => ∃ k : Nat, k ≤ ps.length ∧ i = .int .i64 k ∧ Own wr 5 1 b (enc ps.length ++ (ps.take k).flatMap fun p => encEn p.2).length (bv (enc ps.length ++ (ps.take k).flatMap fun p => encEn p.2)) ∧ Fresh w wr b) (fun _ i _ => ps.length - (intOf i).toNat)
  case atStart => exact ⟨0, Nat.zero_le _, rfl, by simpa using hown1, hst1⟩
  case round =>
    obtain ⟨k, hk, rfl, hown, hst⟩ := hrel
    by_cases hlt : k < ps.length
    · obtain ⟨blk, off, rfl, hc⟩ := (HS.out.1.kn (Step.none hst)).elem (fun x _ => rfl) (by decide) k hlt
      have h0 : wr.cell? ⟨blk, off + k * 2, none⟩ = some ps[k].1 := hc 0 _ rfl
      have h1 : wr.cell? ⟨blk, off + k * 2 + 1, none⟩ = some (.int .i64 ps[k].2.count) := hc 1 _ rfl
      have hx0 := HS.out.2.2 _ (List.getElem_mem hlt)
      have hw0 := HW.out _ (List.getElem_mem hlt)
      have HT := hid (take_flat (fun p => encEn p.2) ps k hlt)
      have hfl := flat_len (ps.take k) (n := 1000) (f := fun p => encEn p.2) fun x hx => encEn_len _ (HW.out x (List.mem_of_mem_take hx)).1 (HW.out x (List.mem_of_mem_take hx)).2
      rw [List.length_take, Nat.min_eq_left (by omega)] at hfl
      have hr1 := encRow_len ps[k].2.row (by omega)
      have hl2 : (enc ps.length ++ (ps.take k).flatMap fun p => encEn p.2).length + 3000 ≤ 1099511627776 := by
        have := HE.out
        simp only [List.length_append]
        omega
      have hblk : blk < w.heap.size := HS.out.2.1 blk rfl
      generalize ps[k] = p at *
      clear hc hfl
      have OK := hid hown
      have SK := hid hst
      have XK := hid hx0
      clear hown hst hx0
      generalize hpre : (enc ps.length ++ (ps.take k).flatMap fun p => encEn p.2) = pre at *
      have HP := hid hpre
      clear hpre
      obtain ⟨rv, x⟩ := p
      simp only at *
      obtain ⟨ao2, cap2, hrv, _, _⟩ := XK.out.1.shape
      subst hrv
      have HL := hid (And.intro hl2 (And.intro hr1 hw0))
      clear hl2 hr1
      have hnb : some blk ≠ u3.ownBlock := fun e => by
        have h9 := SK.out.lo blk e.symm
        omega
      go_wp2
      go_region_held3 (fun w' => w'.cell? ⟨blk, off + k * 2, none⟩ = some (.slice ao2 x.row.length cap2) ∧ w'.cell? ⟨blk, off + k * 2 + 1, none⟩ = some (.int .i64 x.count)) (first | go_keep | exact ⟨c0, c1⟩ | exact ⟨d0, d1⟩ | exact ⟨e0, e1⟩ | exact ⟨f0, f1⟩ | fail)
        (first
          | (refine step_callS rfl 44 #[.tmp 19] #[60] rfl enterRRow #[.slice ao2 x.row.length cap2] (by simp [Act.eval]) (row_call XK.out (Nat.le_refl _) (Step.none SK.out) (by omega)) ?_
             rintro e w3 ⟨v3, rfl, M3⟩
             refine ⟨_, rfl, ?_⟩
             have c0 := grown_cell M3.out.2 h0 (by simp)
             have c1 := grown_cell M3.out.2 h1 (by simp))
          | (refine step_appS bytesT rfl (.tmp 14) (.tmp 20) rfl u3 _ _ rfl (OK.out.kn M3.out.2) v3 _ _ rfl (Sl.of_own M3.out.1) bv_ones (by have := HL.out; omega) ?_
             intro v5 w5 hown5 hst5
             have d0 := grown_cell hst5.1 c0 hnb
             have d1 := grown_cell hst5.1 c1 hnb
             have M5 := hid (And.intro hown5 (Step.trans SK.out (Step.grown M3.out.2 hst5)))
             clear hown5 hst5)
          | (refine step_callS rfl 22 #[.tmp 26] #[2] rfl enterRInt #[.int .i64 x.count] (by simp [Act.eval]) (int_call HL.out.2.2.2) ?_
             rintro e w6 ⟨v6, rfl, M6⟩
             refine ⟨_, rfl, ?_⟩
             have e0 := grown_cell M6.out.2 d0 (by simp)
             have e1 := grown_cell M6.out.2 d1 (by simp))
          | (refine step_appS bytesT rfl (.tmp 21) (.tmp 27) rfl v5 _ _ rfl (Own.kn M5.out.1 M6.out.2) v6 _ _ rfl (Sl.of_own M6.out.1) bv_ones (by have := HL.out; have := enc_len HL.out.2.2.2.1 HL.out.2.2.2.2; omega) ?_
             intro v7 w7 hown7 hst7
             have f0 := grown_cell hst7.1 e0 (fun e => by have := Fresh.lo (show Fresh w w5 v5 from M5.out.2) blk e.symm; omega)
             have f1 := grown_cell hst7.1 e1 (fun e => by have := Fresh.lo (show Fresh w w5 v5 from M5.out.2) blk e.symm; omega)
             have M7 := hid (And.intro hown7 (Step.trans M5.out.2 (Step.grown M6.out.2 hst7)))
             clear hown7 hst7)
          | fail)
      go_wp2
      go_roundw
      case rel => exact ⟨k + 1, by omega, by go_num, by rw [HT.out, ← List.append_assoc, HP.out]; unfold encEn; have h9 := M7.out.1; rw [← List.length_append, ← List.length_append, ← bv_append, ← bv_append] at h9; simpa using h9, M7.out.2⟩
      case measure => simp [intOf]; omega
    · obtain rfl : k = ps.length := by omega
      go_wp2
      go_ret
      rw [List.take_length] at hown
      exact ⟨_, rfl, by unfold encBag; rw [List.length_map, List.flatMap_map]; exact hown, hst⟩
set_option linter.unusedVariables false
def c126p0 (ps0 : String) : Oper := { dst := some 17, op := Go.Op.move (Go.Operand.tmp 0), type := 76, pos := ps0, after := #[], guard := none }
def c126p1 (ps0 : String) : Oper := { dst := some 18, op := Go.Op.move (Go.Operand.tmp 5), type := 3, pos := ps0, after := #[], guard := none }
def c126p2 (ps0 : String) : Oper := { dst := some 19, op := Go.Op.indexAddr 76 (Go.Operand.tmp 17) (Go.Operand.tmp 18), type := 0, pos := ps0, after := #[{ on := 0, ground := Go.Ground.data }, { on := 1, ground := Go.Ground.data }], guard := none }
def c126p3 (ps0 : String) : Oper := { dst := some 20, op := Go.Op.fieldAddr 78 (Go.Operand.tmp 19) 0, type := 0, pos := ps0, after := #[{ on := 2, ground := Go.Ground.data }], guard := none }
def c126p4 (ps0 : String) : Oper := { dst := some 21, op := Go.Op.load 60 (Go.Operand.tmp 20), type := 60, pos := ps0, after := #[{ on := 3, ground := Go.Ground.data }], guard := none }
def c126p5 (ps0 : String) : Oper := { dst := some 22, op := Go.Op.move (Go.Operand.tmp 1), type := 76, pos := ps0, after := #[], guard := none }
def c126p6 (ps0 : String) : Oper := { dst := some 23, op := Go.Op.move (Go.Operand.tmp 5), type := 3, pos := ps0, after := #[], guard := none }
def c126p7 (ps0 : String) : Oper := { dst := some 24, op := Go.Op.indexAddr 76 (Go.Operand.tmp 22) (Go.Operand.tmp 23), type := 0, pos := ps0, after := #[{ on := 5, ground := Go.Ground.data }, { on := 6, ground := Go.Ground.data }], guard := none }
def c126p8 (ps0 : String) : Oper := { dst := some 25, op := Go.Op.fieldAddr 78 (Go.Operand.tmp 24) 0, type := 0, pos := ps0, after := #[{ on := 7, ground := Go.Ground.data }], guard := none }
def c126p9 (ps0 : String) : Oper := { dst := some 26, op := Go.Op.load 60 (Go.Operand.tmp 25), type := 60, pos := ps0, after := #[{ on := 8, ground := Go.Ground.data }], guard := none }
def c126p10 (ps0 : String) : Oper := { dst := some 27, op := Go.Op.call { callee := Go.Callee.value (Go.Operand.func 121), args := #[Go.Operand.tmp 21, Go.Operand.tmp 26], argTypes := #[60, 60] }, type := 4, pos := ps0, after := #[{ on := 4, ground := Go.Ground.data }, { on := 9, ground := Go.Ground.data }], guard := none }
def c126p11 (ps0 : String) : Oper := { dst := some 28, op := Go.Op.unOp Go.UnOp.not 4 (Go.Operand.tmp 27), type := 4, pos := ps0, after := #[{ on := 10, ground := Go.Ground.data }], guard := none }
def c126p12 (ps0 : String) : Oper := { dst := some 29, op := Go.Op.move (Go.Operand.tmp 28), type := 4, pos := ps0, after := #[{ on := 11, ground := Go.Ground.data }, { on := 10, ground := Go.Ground.chain }], guard := none }
def c126p13 (ps0 : String) : Oper := { dst := some 30, op := Go.Op.move (Go.Operand.tmp 0), type := 76, pos := ps0, after := #[{ on := 12, ground := Go.Ground.guard }], guard := some (12, false) }
def c126p14 (ps0 : String) : Oper := { dst := some 31, op := Go.Op.move (Go.Operand.tmp 5), type := 3, pos := ps0, after := #[{ on := 12, ground := Go.Ground.guard }], guard := some (12, false) }
def c126p15 (ps0 : String) : Oper := { dst := some 32, op := Go.Op.indexAddr 76 (Go.Operand.tmp 30) (Go.Operand.tmp 31), type := 0, pos := ps0, after := #[{ on := 13, ground := Go.Ground.data }, { on := 14, ground := Go.Ground.data }, { on := 12, ground := Go.Ground.guard }], guard := some (12, false) }
def c126p16 (ps0 : String) : Oper := { dst := some 33, op := Go.Op.fieldAddr 78 (Go.Operand.tmp 32) 1, type := 0, pos := ps0, after := #[{ on := 15, ground := Go.Ground.data }, { on := 12, ground := Go.Ground.guard }], guard := some (12, false) }
def c126p17 (ps0 : String) : Oper := { dst := some 34, op := Go.Op.load 2 (Go.Operand.tmp 33), type := 2, pos := ps0, after := #[{ on := 16, ground := Go.Ground.data }, { on := 12, ground := Go.Ground.guard }], guard := some (12, false) }
def c126p18 (ps0 : String) : Oper := { dst := some 35, op := Go.Op.move (Go.Operand.tmp 1), type := 76, pos := ps0, after := #[{ on := 12, ground := Go.Ground.guard }], guard := some (12, false) }
def c126p19 (ps0 : String) : Oper := { dst := some 36, op := Go.Op.move (Go.Operand.tmp 5), type := 3, pos := ps0, after := #[{ on := 12, ground := Go.Ground.guard }], guard := some (12, false) }
def c126p20 (ps0 : String) : Oper := { dst := some 37, op := Go.Op.indexAddr 76 (Go.Operand.tmp 35) (Go.Operand.tmp 36), type := 0, pos := ps0, after := #[{ on := 18, ground := Go.Ground.data }, { on := 19, ground := Go.Ground.data }, { on := 12, ground := Go.Ground.guard }], guard := some (12, false) }
def c126p21 (ps0 : String) : Oper := { dst := some 38, op := Go.Op.fieldAddr 78 (Go.Operand.tmp 37) 1, type := 0, pos := ps0, after := #[{ on := 20, ground := Go.Ground.data }, { on := 12, ground := Go.Ground.guard }], guard := some (12, false) }
def c126p22 (ps0 : String) : Oper := { dst := some 39, op := Go.Op.load 2 (Go.Operand.tmp 38), type := 2, pos := ps0, after := #[{ on := 21, ground := Go.Ground.data }, { on := 12, ground := Go.Ground.guard }], guard := some (12, false) }
def c126p23 (ps0 : String) : Oper := { dst := some 40, op := Go.Op.binOp Go.BinOp.neq 2 (Go.Operand.tmp 34) (Go.Operand.tmp 39) 2, type := 4, pos := ps0, after := #[{ on := 17, ground := Go.Ground.data }, { on := 22, ground := Go.Ground.data }, { on := 12, ground := Go.Ground.guard }], guard := some (12, false) }
def c126p24 (ps0 : String) : Oper := { dst := some 41, op := Go.Op.pick (Go.Operand.tmp 29) (Go.Operand.const (Go.Value.bool true)) (Go.Operand.tmp 40), type := 4, pos := ps0, after := #[{ on := 12, ground := Go.Ground.data }, { on := 23, ground := Go.Ground.data }], guard := none }
def c126ops (ps0 : String) : List Oper := [c126p0 ps0, c126p1 ps0, c126p2 ps0, c126p3 ps0, c126p4 ps0, c126p5 ps0, c126p6 ps0, c126p7 ps0, c126p8 ps0, c126p9 ps0, c126p10 ps0, c126p11 ps0, c126p12 ps0, c126p13 ps0, c126p14 ps0, c126p15 ps0, c126p16 ps0, c126p17 ps0, c126p18 ps0, c126p19 ps0, c126p20 ps0, c126p21 ps0, c126p22 ps0, c126p23 ps0, c126p24 ps0]
def c126F (l : List V) (c : Int) (ba oa ca bb ob cb n k : Nat) (ra rb : Value) : List Value := [(.slice (some ⟨ba, oa, none⟩) n ca), (.slice (some ⟨bb, ob, none⟩) n cb), undef, undef, undef, (.int .i64 k), undef, undef, undef, undef, undef, undef, undef, undef, undef, undef, undef, (.slice (some ⟨ba, oa, none⟩) n ca), (.int .i64 k), (.pointer (some ⟨ba, oa + k * 2, none⟩)), (.pointer (some ⟨ba, oa + k * 2, none⟩)), ra, (.slice (some ⟨bb, ob, none⟩) n cb), (.int .i64 k), (.pointer (some ⟨bb, ob + k * 2, none⟩)), (.pointer (some ⟨bb, ob + k * 2, none⟩)), rb, (.bool true), (.bool false), (.bool false), (.slice (some ⟨ba, oa, none⟩) n ca), (.int .i64 k), (.pointer (some ⟨ba, oa + k * 2, none⟩)), (.pointer (some ⟨ba, oa + k * 2 + 1, none⟩)), (.int .i64 c), (.slice (some ⟨bb, ob, none⟩) n cb), (.int .i64 k), (.pointer (some ⟨bb, ob + k * 2, none⟩)), (.pointer (some ⟨bb, ob + k * 2 + 1, none⟩)), (.int .i64 c), (.bool false), (.bool false)]
def c126L (l : List V) (c : Int) (ba oa ca bb ob cb n k : Nat) (ra rb : Value) : List Sp := [Sp.is (.slice (some ⟨ba, oa, none⟩) n ca), Sp.is (.slice (some ⟨bb, ob, none⟩) n cb), Sp.any, Sp.any, Sp.any, Sp.is (.int .i64 k), Sp.any, Sp.any, Sp.any, Sp.any, Sp.any, Sp.any, Sp.any, Sp.any, Sp.any, Sp.any, Sp.any, Sp.is (.slice (some ⟨ba, oa, none⟩) n ca), Sp.is (.int .i64 k), Sp.is (.pointer (some ⟨ba, oa + k * 2, none⟩)), Sp.is (.pointer (some ⟨ba, oa + k * 2, none⟩)), Sp.is ra, Sp.is (.slice (some ⟨bb, ob, none⟩) n cb), Sp.is (.int .i64 k), Sp.is (.pointer (some ⟨bb, ob + k * 2, none⟩)), Sp.is (.pointer (some ⟨bb, ob + k * 2, none⟩)), Sp.is rb, Sp.is (.bool true), Sp.is (.bool false), Sp.is (.bool false), Sp.is (.slice (some ⟨ba, oa, none⟩) n ca), Sp.is (.int .i64 k), Sp.is (.pointer (some ⟨ba, oa + k * 2, none⟩)), Sp.is (.pointer (some ⟨ba, oa + k * 2 + 1, none⟩)), Sp.is (.int .i64 c), Sp.is (.slice (some ⟨bb, ob, none⟩) n cb), Sp.is (.int .i64 k), Sp.is (.pointer (some ⟨bb, ob + k * 2, none⟩)), Sp.is (.pointer (some ⟨bb, ob + k * 2 + 1, none⟩)), Sp.is (.int .i64 c), Sp.is (.bool false), Sp.is (.bool false)]
theorem c126_reg (ps0 : String) : regB (c126ops ps0).toArray 42 = true := by kernel_rfl
theorem c126_m (ps0 : String) : dstsB (c126ops ps0) 42 = [false, false, false, false, false, false, false, false, false, false, false, false, false, false, false, false, false, true, true, true, true, true, true, true, true, true, true, true, true, true, true, true, true, true, true, true, true, true, true, true, true, true] := by kernel_rfl
set_option maxRecDepth 100000 in
theorem c126_o0 (ps0 : String) (l : List V) (c : Int) (ba oa ca bb ob cb n k : Nat) (ra rb : Value) (w0 : World) (hk : k < n) (hna : n ≤ ca) (hnb : n ≤ cb) (hma : ca ≤ 9223372036854775807) (hmb : cb ≤ 9223372036854775807) (hra : Sl w0 3 ra l.length (l.flatMap vcells)) (hrb : Sl w0 3 rb l.length (l.flatMap vcells)) (hA0 : w0.rangeAt ba (oa + k * 2) [ra]) (hB0 : w0.rangeAt bb (ob + k * 2) [rb]) (hA1 : w0.rangeAt ba (oa + k * 2 + 1) [.int .i64 c]) (hB1 : w0.rangeAt bb (ob + k * 2 + 1) [.int .i64 c]) : Ob Try.prog (c126ops ps0).toArray (c126L l c ba oa ca bb ob cb n k ra rb) 42 w0 (c126p0 ps0) := ob_move 0 17 rfl rfl (by decide) trivial (fun _ _ h => h)
set_option maxRecDepth 100000 in
theorem c126_o1 (ps0 : String) (l : List V) (c : Int) (ba oa ca bb ob cb n k : Nat) (ra rb : Value) (w0 : World) (hk : k < n) (hna : n ≤ ca) (hnb : n ≤ cb) (hma : ca ≤ 9223372036854775807) (hmb : cb ≤ 9223372036854775807) (hra : Sl w0 3 ra l.length (l.flatMap vcells)) (hrb : Sl w0 3 rb l.length (l.flatMap vcells)) (hA0 : w0.rangeAt ba (oa + k * 2) [ra]) (hB0 : w0.rangeAt bb (ob + k * 2) [rb]) (hA1 : w0.rangeAt ba (oa + k * 2 + 1) [.int .i64 c]) (hB1 : w0.rangeAt bb (ob + k * 2 + 1) [.int .i64 c]) : Ob Try.prog (c126ops ps0).toArray (c126L l c ba oa ca bb ob cb n k ra rb) 42 w0 (c126p1 ps0) := ob_move 5 18 rfl rfl (by decide) trivial (fun _ _ h => h)
set_option maxRecDepth 100000 in
theorem c126_o2 (ps0 : String) (l : List V) (c : Int) (ba oa ca bb ob cb n k : Nat) (ra rb : Value) (w0 : World) (hk : k < n) (hna : n ≤ ca) (hnb : n ≤ cb) (hma : ca ≤ 9223372036854775807) (hmb : cb ≤ 9223372036854775807) (hra : Sl w0 3 ra l.length (l.flatMap vcells)) (hrb : Sl w0 3 rb l.length (l.flatMap vcells)) (hA0 : w0.rangeAt ba (oa + k * 2) [ra]) (hB0 : w0.rangeAt bb (ob + k * 2) [rb]) (hA1 : w0.rangeAt ba (oa + k * 2 + 1) [.int .i64 c]) (hB1 : w0.rangeAt bb (ob + k * 2 + 1) [.int .i64 c]) : Ob Try.prog (c126ops ps0).toArray (c126L l c ba oa ca bb ob cb n k ra rb) 42 w0 (c126p2 ps0) := ob_index rfl rfl trivial ⟨by decide, fun _ _ h => h⟩ ⟨by decide, fun _ _ h => h⟩ (fun w => by go_simp) (fun _ => rfl)
set_option maxRecDepth 100000 in
theorem c126_o3 (ps0 : String) (l : List V) (c : Int) (ba oa ca bb ob cb n k : Nat) (ra rb : Value) (w0 : World) (hk : k < n) (hna : n ≤ ca) (hnb : n ≤ cb) (hma : ca ≤ 9223372036854775807) (hmb : cb ≤ 9223372036854775807) (hra : Sl w0 3 ra l.length (l.flatMap vcells)) (hrb : Sl w0 3 rb l.length (l.flatMap vcells)) (hA0 : w0.rangeAt ba (oa + k * 2) [ra]) (hB0 : w0.rangeAt bb (ob + k * 2) [rb]) (hA1 : w0.rangeAt ba (oa + k * 2 + 1) [.int .i64 c]) (hB1 : w0.rangeAt bb (ob + k * 2 + 1) [.int .i64 c]) : Ob Try.prog (c126ops ps0).toArray (c126L l c ba oa ca bb ob cb n k ra rb) 42 w0 (c126p3 ps0) := ob_fieldAddr rfl rfl trivial ⟨by decide, fun _ _ h => h⟩ (fun w => by go_simp) (fun _ => rfl)
set_option maxRecDepth 100000 in
theorem c126_o4 (ps0 : String) (l : List V) (c : Int) (ba oa ca bb ob cb n k : Nat) (ra rb : Value) (w0 : World) (hk : k < n) (hna : n ≤ ca) (hnb : n ≤ cb) (hma : ca ≤ 9223372036854775807) (hmb : cb ≤ 9223372036854775807) (hra : Sl w0 3 ra l.length (l.flatMap vcells)) (hrb : Sl w0 3 rb l.length (l.flatMap vcells)) (hA0 : w0.rangeAt ba (oa + k * 2) [ra]) (hB0 : w0.rangeAt bb (ob + k * 2) [rb]) (hA1 : w0.rangeAt ba (oa + k * 2 + 1) [.int .i64 c]) (hB1 : w0.rangeAt bb (ob + k * 2 + 1) [.int .i64 c]) : Ob Try.prog (c126ops ps0).toArray (c126L l c ba oa ca bb ob cb n k ra rb) 42 w0 (c126p4 ps0) := ob_load rfl rfl trivial ⟨by decide, fun _ _ h => h⟩ (tyRowV hra) hA0 (fun _ _ => rfl)
set_option maxRecDepth 100000 in
theorem c126_o5 (ps0 : String) (l : List V) (c : Int) (ba oa ca bb ob cb n k : Nat) (ra rb : Value) (w0 : World) (hk : k < n) (hna : n ≤ ca) (hnb : n ≤ cb) (hma : ca ≤ 9223372036854775807) (hmb : cb ≤ 9223372036854775807) (hra : Sl w0 3 ra l.length (l.flatMap vcells)) (hrb : Sl w0 3 rb l.length (l.flatMap vcells)) (hA0 : w0.rangeAt ba (oa + k * 2) [ra]) (hB0 : w0.rangeAt bb (ob + k * 2) [rb]) (hA1 : w0.rangeAt ba (oa + k * 2 + 1) [.int .i64 c]) (hB1 : w0.rangeAt bb (ob + k * 2 + 1) [.int .i64 c]) : Ob Try.prog (c126ops ps0).toArray (c126L l c ba oa ca bb ob cb n k ra rb) 42 w0 (c126p5 ps0) := ob_move 1 22 rfl rfl (by decide) trivial (fun _ _ h => h)
set_option maxRecDepth 100000 in
theorem c126_o6 (ps0 : String) (l : List V) (c : Int) (ba oa ca bb ob cb n k : Nat) (ra rb : Value) (w0 : World) (hk : k < n) (hna : n ≤ ca) (hnb : n ≤ cb) (hma : ca ≤ 9223372036854775807) (hmb : cb ≤ 9223372036854775807) (hra : Sl w0 3 ra l.length (l.flatMap vcells)) (hrb : Sl w0 3 rb l.length (l.flatMap vcells)) (hA0 : w0.rangeAt ba (oa + k * 2) [ra]) (hB0 : w0.rangeAt bb (ob + k * 2) [rb]) (hA1 : w0.rangeAt ba (oa + k * 2 + 1) [.int .i64 c]) (hB1 : w0.rangeAt bb (ob + k * 2 + 1) [.int .i64 c]) : Ob Try.prog (c126ops ps0).toArray (c126L l c ba oa ca bb ob cb n k ra rb) 42 w0 (c126p6 ps0) := ob_move 5 23 rfl rfl (by decide) trivial (fun _ _ h => h)
set_option maxRecDepth 100000 in
theorem c126_o7 (ps0 : String) (l : List V) (c : Int) (ba oa ca bb ob cb n k : Nat) (ra rb : Value) (w0 : World) (hk : k < n) (hna : n ≤ ca) (hnb : n ≤ cb) (hma : ca ≤ 9223372036854775807) (hmb : cb ≤ 9223372036854775807) (hra : Sl w0 3 ra l.length (l.flatMap vcells)) (hrb : Sl w0 3 rb l.length (l.flatMap vcells)) (hA0 : w0.rangeAt ba (oa + k * 2) [ra]) (hB0 : w0.rangeAt bb (ob + k * 2) [rb]) (hA1 : w0.rangeAt ba (oa + k * 2 + 1) [.int .i64 c]) (hB1 : w0.rangeAt bb (ob + k * 2 + 1) [.int .i64 c]) : Ob Try.prog (c126ops ps0).toArray (c126L l c ba oa ca bb ob cb n k ra rb) 42 w0 (c126p7 ps0) := ob_index rfl rfl trivial ⟨by decide, fun _ _ h => h⟩ ⟨by decide, fun _ _ h => h⟩ (fun w => by go_simp) (fun _ => rfl)
set_option maxRecDepth 100000 in
theorem c126_o8 (ps0 : String) (l : List V) (c : Int) (ba oa ca bb ob cb n k : Nat) (ra rb : Value) (w0 : World) (hk : k < n) (hna : n ≤ ca) (hnb : n ≤ cb) (hma : ca ≤ 9223372036854775807) (hmb : cb ≤ 9223372036854775807) (hra : Sl w0 3 ra l.length (l.flatMap vcells)) (hrb : Sl w0 3 rb l.length (l.flatMap vcells)) (hA0 : w0.rangeAt ba (oa + k * 2) [ra]) (hB0 : w0.rangeAt bb (ob + k * 2) [rb]) (hA1 : w0.rangeAt ba (oa + k * 2 + 1) [.int .i64 c]) (hB1 : w0.rangeAt bb (ob + k * 2 + 1) [.int .i64 c]) : Ob Try.prog (c126ops ps0).toArray (c126L l c ba oa ca bb ob cb n k ra rb) 42 w0 (c126p8 ps0) := ob_fieldAddr rfl rfl trivial ⟨by decide, fun _ _ h => h⟩ (fun w => by go_simp) (fun _ => rfl)
set_option maxRecDepth 100000 in
theorem c126_o9 (ps0 : String) (l : List V) (c : Int) (ba oa ca bb ob cb n k : Nat) (ra rb : Value) (w0 : World) (hk : k < n) (hna : n ≤ ca) (hnb : n ≤ cb) (hma : ca ≤ 9223372036854775807) (hmb : cb ≤ 9223372036854775807) (hra : Sl w0 3 ra l.length (l.flatMap vcells)) (hrb : Sl w0 3 rb l.length (l.flatMap vcells)) (hA0 : w0.rangeAt ba (oa + k * 2) [ra]) (hB0 : w0.rangeAt bb (ob + k * 2) [rb]) (hA1 : w0.rangeAt ba (oa + k * 2 + 1) [.int .i64 c]) (hB1 : w0.rangeAt bb (ob + k * 2 + 1) [.int .i64 c]) : Ob Try.prog (c126ops ps0).toArray (c126L l c ba oa ca bb ob cb n k ra rb) 42 w0 (c126p9 ps0) := ob_load rfl rfl trivial ⟨by decide, fun _ _ h => h⟩ (tyRowV hrb) hB0 (fun _ _ => rfl)
set_option maxRecDepth 100000 in
theorem c126_o10 (ps0 : String) (l : List V) (c : Int) (ba oa ca bb ob cb n k : Nat) (ra rb : Value) (w0 : World) (hk : k < n) (hna : n ≤ ca) (hnb : n ≤ cb) (hma : ca ≤ 9223372036854775807) (hmb : cb ≤ 9223372036854775807) (hra : Sl w0 3 ra l.length (l.flatMap vcells)) (hrb : Sl w0 3 rb l.length (l.flatMap vcells)) (hA0 : w0.rangeAt ba (oa + k * 2) [ra]) (hB0 : w0.rangeAt bb (ob + k * 2) [rb]) (hA1 : w0.rangeAt ba (oa + k * 2 + 1) [.int .i64 c]) (hB1 : w0.rangeAt bb (ob + k * 2 + 1) [.int .i64 c]) : Ob Try.prog (c126ops ps0).toArray (c126L l c ba oa ca bb ob cb n k ra rb) 42 w0 (c126p10 ps0) := ob_call2 [ra, rb] rfl rfl trivial ⟨⟨by decide, fun _ _ h => h⟩, ⟨by decide, fun _ _ h => h⟩, trivial⟩ (fun w hw => (sameRow22_walk _ _ l l w (hra.kn hw) (hrb.kn hw)).mono fun e w1 ⟨he, hg⟩ => ⟨.bool true, by rw [he]; simp, hg, rfl⟩) (enter_of Try.func121 (by kernel_rfl) rfl)
set_option maxRecDepth 100000 in
theorem c126_o11 (ps0 : String) (l : List V) (c : Int) (ba oa ca bb ob cb n k : Nat) (ra rb : Value) (w0 : World) (hk : k < n) (hna : n ≤ ca) (hnb : n ≤ cb) (hma : ca ≤ 9223372036854775807) (hmb : cb ≤ 9223372036854775807) (hra : Sl w0 3 ra l.length (l.flatMap vcells)) (hrb : Sl w0 3 rb l.length (l.flatMap vcells)) (hA0 : w0.rangeAt ba (oa + k * 2) [ra]) (hB0 : w0.rangeAt bb (ob + k * 2) [rb]) (hA1 : w0.rangeAt ba (oa + k * 2 + 1) [.int .i64 c]) (hB1 : w0.rangeAt bb (ob + k * 2 + 1) [.int .i64 c]) : Ob Try.prog (c126ops ps0).toArray (c126L l c ba oa ca bb ob cb n k ra rb) 42 w0 (c126p11 ps0) := ob_not rfl rfl trivial ⟨by decide, fun _ _ h => h⟩ (fun _ => rfl)
set_option maxRecDepth 100000 in
theorem c126_o12 (ps0 : String) (l : List V) (c : Int) (ba oa ca bb ob cb n k : Nat) (ra rb : Value) (w0 : World) (hk : k < n) (hna : n ≤ ca) (hnb : n ≤ cb) (hma : ca ≤ 9223372036854775807) (hmb : cb ≤ 9223372036854775807) (hra : Sl w0 3 ra l.length (l.flatMap vcells)) (hrb : Sl w0 3 rb l.length (l.flatMap vcells)) (hA0 : w0.rangeAt ba (oa + k * 2) [ra]) (hB0 : w0.rangeAt bb (ob + k * 2) [rb]) (hA1 : w0.rangeAt ba (oa + k * 2 + 1) [.int .i64 c]) (hB1 : w0.rangeAt bb (ob + k * 2 + 1) [.int .i64 c]) : Ob Try.prog (c126ops ps0).toArray (c126L l c ba oa ca bb ob cb n k ra rb) 42 w0 (c126p12 ps0) := ob_move 28 29 rfl rfl (by decide) trivial (fun _ _ h => h)
set_option maxRecDepth 100000 in
theorem c126_o13 (ps0 : String) (l : List V) (c : Int) (ba oa ca bb ob cb n k : Nat) (ra rb : Value) (w0 : World) (hk : k < n) (hna : n ≤ ca) (hnb : n ≤ cb) (hma : ca ≤ 9223372036854775807) (hmb : cb ≤ 9223372036854775807) (hra : Sl w0 3 ra l.length (l.flatMap vcells)) (hrb : Sl w0 3 rb l.length (l.flatMap vcells)) (hA0 : w0.rangeAt ba (oa + k * 2) [ra]) (hB0 : w0.rangeAt bb (ob + k * 2) [rb]) (hA1 : w0.rangeAt ba (oa + k * 2 + 1) [.int .i64 c]) (hB1 : w0.rangeAt bb (ob + k * 2 + 1) [.int .i64 c]) : Ob Try.prog (c126ops ps0).toArray (c126L l c ba oa ca bb ob cb n k ra rb) 42 w0 (c126p13 ps0) := ob_move 0 30 rfl rfl (by decide) ⟨29, rfl, by decide, fun _ _ h => h⟩ (fun _ _ h => h)
set_option maxRecDepth 100000 in
theorem c126_o14 (ps0 : String) (l : List V) (c : Int) (ba oa ca bb ob cb n k : Nat) (ra rb : Value) (w0 : World) (hk : k < n) (hna : n ≤ ca) (hnb : n ≤ cb) (hma : ca ≤ 9223372036854775807) (hmb : cb ≤ 9223372036854775807) (hra : Sl w0 3 ra l.length (l.flatMap vcells)) (hrb : Sl w0 3 rb l.length (l.flatMap vcells)) (hA0 : w0.rangeAt ba (oa + k * 2) [ra]) (hB0 : w0.rangeAt bb (ob + k * 2) [rb]) (hA1 : w0.rangeAt ba (oa + k * 2 + 1) [.int .i64 c]) (hB1 : w0.rangeAt bb (ob + k * 2 + 1) [.int .i64 c]) : Ob Try.prog (c126ops ps0).toArray (c126L l c ba oa ca bb ob cb n k ra rb) 42 w0 (c126p14 ps0) := ob_move 5 31 rfl rfl (by decide) ⟨29, rfl, by decide, fun _ _ h => h⟩ (fun _ _ h => h)
set_option maxRecDepth 100000 in
theorem c126_o15 (ps0 : String) (l : List V) (c : Int) (ba oa ca bb ob cb n k : Nat) (ra rb : Value) (w0 : World) (hk : k < n) (hna : n ≤ ca) (hnb : n ≤ cb) (hma : ca ≤ 9223372036854775807) (hmb : cb ≤ 9223372036854775807) (hra : Sl w0 3 ra l.length (l.flatMap vcells)) (hrb : Sl w0 3 rb l.length (l.flatMap vcells)) (hA0 : w0.rangeAt ba (oa + k * 2) [ra]) (hB0 : w0.rangeAt bb (ob + k * 2) [rb]) (hA1 : w0.rangeAt ba (oa + k * 2 + 1) [.int .i64 c]) (hB1 : w0.rangeAt bb (ob + k * 2 + 1) [.int .i64 c]) : Ob Try.prog (c126ops ps0).toArray (c126L l c ba oa ca bb ob cb n k ra rb) 42 w0 (c126p15 ps0) := ob_index rfl rfl ⟨29, rfl, by decide, fun _ _ h => h⟩ ⟨by decide, fun _ _ h => h⟩ ⟨by decide, fun _ _ h => h⟩ (fun w => by go_simp) (fun _ => rfl)
set_option maxRecDepth 100000 in
theorem c126_o16 (ps0 : String) (l : List V) (c : Int) (ba oa ca bb ob cb n k : Nat) (ra rb : Value) (w0 : World) (hk : k < n) (hna : n ≤ ca) (hnb : n ≤ cb) (hma : ca ≤ 9223372036854775807) (hmb : cb ≤ 9223372036854775807) (hra : Sl w0 3 ra l.length (l.flatMap vcells)) (hrb : Sl w0 3 rb l.length (l.flatMap vcells)) (hA0 : w0.rangeAt ba (oa + k * 2) [ra]) (hB0 : w0.rangeAt bb (ob + k * 2) [rb]) (hA1 : w0.rangeAt ba (oa + k * 2 + 1) [.int .i64 c]) (hB1 : w0.rangeAt bb (ob + k * 2 + 1) [.int .i64 c]) : Ob Try.prog (c126ops ps0).toArray (c126L l c ba oa ca bb ob cb n k ra rb) 42 w0 (c126p16 ps0) := ob_fieldAddr rfl rfl ⟨29, rfl, by decide, fun _ _ h => h⟩ ⟨by decide, fun _ _ h => h⟩ (fun w => by go_simp) (fun _ => rfl)
set_option maxRecDepth 100000 in
theorem c126_o17 (ps0 : String) (l : List V) (c : Int) (ba oa ca bb ob cb n k : Nat) (ra rb : Value) (w0 : World) (hk : k < n) (hna : n ≤ ca) (hnb : n ≤ cb) (hma : ca ≤ 9223372036854775807) (hmb : cb ≤ 9223372036854775807) (hra : Sl w0 3 ra l.length (l.flatMap vcells)) (hrb : Sl w0 3 rb l.length (l.flatMap vcells)) (hA0 : w0.rangeAt ba (oa + k * 2) [ra]) (hB0 : w0.rangeAt bb (ob + k * 2) [rb]) (hA1 : w0.rangeAt ba (oa + k * 2 + 1) [.int .i64 c]) (hB1 : w0.rangeAt bb (ob + k * 2 + 1) [.int .i64 c]) : Ob Try.prog (c126ops ps0).toArray (c126L l c ba oa ca bb ob cb n k ra rb) 42 w0 (c126p17 ps0) := ob_load rfl rfl ⟨29, rfl, by decide, fun _ _ h => h⟩ ⟨by decide, fun _ _ h => h⟩ (ty64 c) hA1 (fun _ _ => rfl)
set_option maxRecDepth 100000 in
theorem c126_o18 (ps0 : String) (l : List V) (c : Int) (ba oa ca bb ob cb n k : Nat) (ra rb : Value) (w0 : World) (hk : k < n) (hna : n ≤ ca) (hnb : n ≤ cb) (hma : ca ≤ 9223372036854775807) (hmb : cb ≤ 9223372036854775807) (hra : Sl w0 3 ra l.length (l.flatMap vcells)) (hrb : Sl w0 3 rb l.length (l.flatMap vcells)) (hA0 : w0.rangeAt ba (oa + k * 2) [ra]) (hB0 : w0.rangeAt bb (ob + k * 2) [rb]) (hA1 : w0.rangeAt ba (oa + k * 2 + 1) [.int .i64 c]) (hB1 : w0.rangeAt bb (ob + k * 2 + 1) [.int .i64 c]) : Ob Try.prog (c126ops ps0).toArray (c126L l c ba oa ca bb ob cb n k ra rb) 42 w0 (c126p18 ps0) := ob_move 1 35 rfl rfl (by decide) ⟨29, rfl, by decide, fun _ _ h => h⟩ (fun _ _ h => h)
set_option maxRecDepth 100000 in
theorem c126_o19 (ps0 : String) (l : List V) (c : Int) (ba oa ca bb ob cb n k : Nat) (ra rb : Value) (w0 : World) (hk : k < n) (hna : n ≤ ca) (hnb : n ≤ cb) (hma : ca ≤ 9223372036854775807) (hmb : cb ≤ 9223372036854775807) (hra : Sl w0 3 ra l.length (l.flatMap vcells)) (hrb : Sl w0 3 rb l.length (l.flatMap vcells)) (hA0 : w0.rangeAt ba (oa + k * 2) [ra]) (hB0 : w0.rangeAt bb (ob + k * 2) [rb]) (hA1 : w0.rangeAt ba (oa + k * 2 + 1) [.int .i64 c]) (hB1 : w0.rangeAt bb (ob + k * 2 + 1) [.int .i64 c]) : Ob Try.prog (c126ops ps0).toArray (c126L l c ba oa ca bb ob cb n k ra rb) 42 w0 (c126p19 ps0) := ob_move 5 36 rfl rfl (by decide) ⟨29, rfl, by decide, fun _ _ h => h⟩ (fun _ _ h => h)
set_option maxRecDepth 100000 in
theorem c126_o20 (ps0 : String) (l : List V) (c : Int) (ba oa ca bb ob cb n k : Nat) (ra rb : Value) (w0 : World) (hk : k < n) (hna : n ≤ ca) (hnb : n ≤ cb) (hma : ca ≤ 9223372036854775807) (hmb : cb ≤ 9223372036854775807) (hra : Sl w0 3 ra l.length (l.flatMap vcells)) (hrb : Sl w0 3 rb l.length (l.flatMap vcells)) (hA0 : w0.rangeAt ba (oa + k * 2) [ra]) (hB0 : w0.rangeAt bb (ob + k * 2) [rb]) (hA1 : w0.rangeAt ba (oa + k * 2 + 1) [.int .i64 c]) (hB1 : w0.rangeAt bb (ob + k * 2 + 1) [.int .i64 c]) : Ob Try.prog (c126ops ps0).toArray (c126L l c ba oa ca bb ob cb n k ra rb) 42 w0 (c126p20 ps0) := ob_index rfl rfl ⟨29, rfl, by decide, fun _ _ h => h⟩ ⟨by decide, fun _ _ h => h⟩ ⟨by decide, fun _ _ h => h⟩ (fun w => by go_simp) (fun _ => rfl)
set_option maxRecDepth 100000 in
theorem c126_o21 (ps0 : String) (l : List V) (c : Int) (ba oa ca bb ob cb n k : Nat) (ra rb : Value) (w0 : World) (hk : k < n) (hna : n ≤ ca) (hnb : n ≤ cb) (hma : ca ≤ 9223372036854775807) (hmb : cb ≤ 9223372036854775807) (hra : Sl w0 3 ra l.length (l.flatMap vcells)) (hrb : Sl w0 3 rb l.length (l.flatMap vcells)) (hA0 : w0.rangeAt ba (oa + k * 2) [ra]) (hB0 : w0.rangeAt bb (ob + k * 2) [rb]) (hA1 : w0.rangeAt ba (oa + k * 2 + 1) [.int .i64 c]) (hB1 : w0.rangeAt bb (ob + k * 2 + 1) [.int .i64 c]) : Ob Try.prog (c126ops ps0).toArray (c126L l c ba oa ca bb ob cb n k ra rb) 42 w0 (c126p21 ps0) := ob_fieldAddr rfl rfl ⟨29, rfl, by decide, fun _ _ h => h⟩ ⟨by decide, fun _ _ h => h⟩ (fun w => by go_simp) (fun _ => rfl)
set_option maxRecDepth 100000 in
theorem c126_o22 (ps0 : String) (l : List V) (c : Int) (ba oa ca bb ob cb n k : Nat) (ra rb : Value) (w0 : World) (hk : k < n) (hna : n ≤ ca) (hnb : n ≤ cb) (hma : ca ≤ 9223372036854775807) (hmb : cb ≤ 9223372036854775807) (hra : Sl w0 3 ra l.length (l.flatMap vcells)) (hrb : Sl w0 3 rb l.length (l.flatMap vcells)) (hA0 : w0.rangeAt ba (oa + k * 2) [ra]) (hB0 : w0.rangeAt bb (ob + k * 2) [rb]) (hA1 : w0.rangeAt ba (oa + k * 2 + 1) [.int .i64 c]) (hB1 : w0.rangeAt bb (ob + k * 2 + 1) [.int .i64 c]) : Ob Try.prog (c126ops ps0).toArray (c126L l c ba oa ca bb ob cb n k ra rb) 42 w0 (c126p22 ps0) := ob_load rfl rfl ⟨29, rfl, by decide, fun _ _ h => h⟩ ⟨by decide, fun _ _ h => h⟩ (ty64 c) hB1 (fun _ _ => rfl)
set_option maxRecDepth 100000 in
theorem c126_o23 (ps0 : String) (l : List V) (c : Int) (ba oa ca bb ob cb n k : Nat) (ra rb : Value) (w0 : World) (hk : k < n) (hna : n ≤ ca) (hnb : n ≤ cb) (hma : ca ≤ 9223372036854775807) (hmb : cb ≤ 9223372036854775807) (hra : Sl w0 3 ra l.length (l.flatMap vcells)) (hrb : Sl w0 3 rb l.length (l.flatMap vcells)) (hA0 : w0.rangeAt ba (oa + k * 2) [ra]) (hB0 : w0.rangeAt bb (ob + k * 2) [rb]) (hA1 : w0.rangeAt ba (oa + k * 2 + 1) [.int .i64 c]) (hB1 : w0.rangeAt bb (ob + k * 2 + 1) [.int .i64 c]) : Ob Try.prog (c126ops ps0).toArray (c126L l c ba oa ca bb ob cb n k ra rb) 42 w0 (c126p23 ps0) := ob_neI rfl rfl ⟨29, rfl, by decide, fun _ _ h => h⟩ ⟨by decide, fun _ _ h => h⟩ ⟨by decide, fun _ _ h => h⟩ rfl (fun _ => rfl)
set_option maxRecDepth 100000 in
theorem c126_o24 (ps0 : String) (l : List V) (c : Int) (ba oa ca bb ob cb n k : Nat) (ra rb : Value) (w0 : World) (hk : k < n) (hna : n ≤ ca) (hnb : n ≤ cb) (hma : ca ≤ 9223372036854775807) (hmb : cb ≤ 9223372036854775807) (hra : Sl w0 3 ra l.length (l.flatMap vcells)) (hrb : Sl w0 3 rb l.length (l.flatMap vcells)) (hA0 : w0.rangeAt ba (oa + k * 2) [ra]) (hB0 : w0.rangeAt bb (ob + k * 2) [rb]) (hA1 : w0.rangeAt ba (oa + k * 2 + 1) [.int .i64 c]) (hB1 : w0.rangeAt bb (ob + k * 2 + 1) [.int .i64 c]) : Ob Try.prog (c126ops ps0).toArray (c126L l c ba oa ca bb ob cb n k ra rb) 42 w0 (c126p24 ps0) := ob_pickF rfl rfl trivial ⟨by decide, fun _ _ h => h⟩ ⟨by decide, fun _ _ h => h⟩ (fun _ => rfl)
set_option maxRecDepth 100000 in
theorem c126_ob (ps0 : String) (l : List V) (c : Int) (ba oa ca bb ob cb n k : Nat) (ra rb : Value) (w0 : World) (hk : k < n) (hna : n ≤ ca) (hnb : n ≤ cb) (hma : ca ≤ 9223372036854775807) (hmb : cb ≤ 9223372036854775807) (hra : Sl w0 3 ra l.length (l.flatMap vcells)) (hrb : Sl w0 3 rb l.length (l.flatMap vcells)) (hA0 : w0.rangeAt ba (oa + k * 2) [ra]) (hB0 : w0.rangeAt bb (ob + k * 2) [rb]) (hA1 : w0.rangeAt ba (oa + k * 2 + 1) [.int .i64 c]) (hB1 : w0.rangeAt bb (ob + k * 2 + 1) [.int .i64 c]) : ObAll Try.prog (c126ops ps0).toArray (c126L l c ba oa ca bb ob cb n k ra rb) 42 w0 (c126ops ps0) := ⟨c126_o0 ps0 l c ba oa ca bb ob cb n k ra rb w0 hk hna hnb hma hmb hra hrb hA0 hB0 hA1 hB1, c126_o1 ps0 l c ba oa ca bb ob cb n k ra rb w0 hk hna hnb hma hmb hra hrb hA0 hB0 hA1 hB1, c126_o2 ps0 l c ba oa ca bb ob cb n k ra rb w0 hk hna hnb hma hmb hra hrb hA0 hB0 hA1 hB1, c126_o3 ps0 l c ba oa ca bb ob cb n k ra rb w0 hk hna hnb hma hmb hra hrb hA0 hB0 hA1 hB1, c126_o4 ps0 l c ba oa ca bb ob cb n k ra rb w0 hk hna hnb hma hmb hra hrb hA0 hB0 hA1 hB1, c126_o5 ps0 l c ba oa ca bb ob cb n k ra rb w0 hk hna hnb hma hmb hra hrb hA0 hB0 hA1 hB1, c126_o6 ps0 l c ba oa ca bb ob cb n k ra rb w0 hk hna hnb hma hmb hra hrb hA0 hB0 hA1 hB1, c126_o7 ps0 l c ba oa ca bb ob cb n k ra rb w0 hk hna hnb hma hmb hra hrb hA0 hB0 hA1 hB1, c126_o8 ps0 l c ba oa ca bb ob cb n k ra rb w0 hk hna hnb hma hmb hra hrb hA0 hB0 hA1 hB1, c126_o9 ps0 l c ba oa ca bb ob cb n k ra rb w0 hk hna hnb hma hmb hra hrb hA0 hB0 hA1 hB1, c126_o10 ps0 l c ba oa ca bb ob cb n k ra rb w0 hk hna hnb hma hmb hra hrb hA0 hB0 hA1 hB1, c126_o11 ps0 l c ba oa ca bb ob cb n k ra rb w0 hk hna hnb hma hmb hra hrb hA0 hB0 hA1 hB1, c126_o12 ps0 l c ba oa ca bb ob cb n k ra rb w0 hk hna hnb hma hmb hra hrb hA0 hB0 hA1 hB1, c126_o13 ps0 l c ba oa ca bb ob cb n k ra rb w0 hk hna hnb hma hmb hra hrb hA0 hB0 hA1 hB1, c126_o14 ps0 l c ba oa ca bb ob cb n k ra rb w0 hk hna hnb hma hmb hra hrb hA0 hB0 hA1 hB1, c126_o15 ps0 l c ba oa ca bb ob cb n k ra rb w0 hk hna hnb hma hmb hra hrb hA0 hB0 hA1 hB1, c126_o16 ps0 l c ba oa ca bb ob cb n k ra rb w0 hk hna hnb hma hmb hra hrb hA0 hB0 hA1 hB1, c126_o17 ps0 l c ba oa ca bb ob cb n k ra rb w0 hk hna hnb hma hmb hra hrb hA0 hB0 hA1 hB1, c126_o18 ps0 l c ba oa ca bb ob cb n k ra rb w0 hk hna hnb hma hmb hra hrb hA0 hB0 hA1 hB1, c126_o19 ps0 l c ba oa ca bb ob cb n k ra rb w0 hk hna hnb hma hmb hra hrb hA0 hB0 hA1 hB1, c126_o20 ps0 l c ba oa ca bb ob cb n k ra rb w0 hk hna hnb hma hmb hra hrb hA0 hB0 hA1 hB1, c126_o21 ps0 l c ba oa ca bb ob cb n k ra rb w0 hk hna hnb hma hmb hra hrb hA0 hB0 hA1 hB1, c126_o22 ps0 l c ba oa ca bb ob cb n k ra rb w0 hk hna hnb hma hmb hra hrb hA0 hB0 hA1 hB1, c126_o23 ps0 l c ba oa ca bb ob cb n k ra rb w0 hk hna hnb hma hmb hra hrb hA0 hB0 hA1 hB1, c126_o24 ps0 l c ba oa ca bb ob cb n k ra rb w0 hk hna hnb hma hmb hra hrb hA0 hB0 hA1 hB1, trivial⟩

/-- what is told of a bag: its slice, and each entry's row -/
def RBag (w : World) (s : Value) (ps : List (Value × En)) : Prop := Sl w 2 s ps.length (ps.flatMap ecells) ∧ ∀ p ∈ ps, Sl w 3 p.1 p.2.row.length (p.2.row.flatMap vcells)
theorem RBag.kn {w w' : World} {s : Value} {ps : List (Value × En)} (h : RBag w s ps) (g : w.grownBy w' none) : RBag w' s ps := ⟨h.1.kn g, fun p hp => (h.2 p hp).kn g⟩
theorem range_cells {w : World} {b o : Nat} {v : Value} (h : w.cell? ⟨b, o, none⟩ = some v) : w.rangeAt b o [v] := fun j u hj => by
  cases j with
  | zero => simp at hj; subst hj; exact h
  | succ j => simp at hj
set_option maxRecDepth 100000 in
set_option maxHeartbeats 1000000 in
theorem sameBag22_walk (a b : Value) (ps qs : List (Value × En)) (w : World) (ha : RBag w a ps) (hb : RBag w b qs) (hpq : ps.map (·.2) = qs.map (·.2)) :
    Calls Try.prog 126 #[a, b] w fun e w' => e = .returned (.bool true) ∧ w.grownBy w' none := by
  obtain ⟨ao, cap, rfl, hnc, hcm⟩ := ha.1.shape
  obtain ⟨bo, bcap, rfl, hnc2, hcm2⟩ := hb.1.shape
  have hlen : qs.length = ps.length := by have := congrArg List.length hpq; simpa using this.symm
  have HA := hid ha
  have hb' := hb
  have HB : Hid (RBag w (.slice bo ps.length bcap) qs) := by rw [hlen] at hb'; exact hid hb'
  have HPQ := hid hpq
  have HLEN := hid hlen
  have hnc2' : ps.length ≤ bcap := by omega
  clear ha hb hb' hpq hnc2
  rw [HLEN.out]
  clear hlen
  go_enter Try.func126, Try.ntmps126
  go_wp2
  go_loopw [5] (fun i wr => ∃ k : Nat, k ≤ ps.length ∧ i = .int .i64 k ∧ w.grownBy wr none) (fun i _ => ps.length - (intOf i).toNat)
  case atStart => exact ⟨0, Nat.zero_le _, rfl, World.grownBy.refl _ _⟩
  case round =>
    obtain ⟨k, hk, rfl, hg⟩ := hrel
    by_cases hlt : k < ps.length
    · have hm : k < qs.length := by have := HLEN.out; omega
      obtain ⟨blk, off, rfl, hc⟩ := (HA.out.kn hg).1.elem (fun x _ => rfl) (by decide) k hlt
      have hq1 := (HB.out.kn hg).1
      have hq1' : Sl wr 2 (.slice bo ps.length bcap) qs.length (qs.flatMap ecells) := hq1
      obtain ⟨blk2, off2, rfl, hc2⟩ := hq1'.elem (fun x _ => rfl) (by decide) k hm
      have h0 : wr.cell? ⟨blk, off + k * 2, none⟩ = some ps[k].1 := hc 0 _ rfl
      have h1 : wr.cell? ⟨blk, off + k * 2 + 1, none⟩ = some (.int .i64 ps[k].2.count) := hc 1 _ rfl
      have g0 : wr.cell? ⟨blk2, off2 + k * 2, none⟩ = some qs[k].1 := hc2 0 _ rfl
      have g1 : wr.cell? ⟨blk2, off2 + k * 2 + 1, none⟩ = some (.int .i64 qs[k].2.count) := hc2 1 _ rfl
      have hra := (HA.out.kn hg).2 _ (List.getElem_mem hlt)
      have hrb := (HB.out.kn hg).2 _ (List.getElem_mem hm)
      have heq : ps[k].2 = qs[k].2 := by
        have h9 : (ps.map (·.2))[k]'(by simpa using hlt) = (qs.map (·.2))[k]'(by simpa using hm) := by simp only [HPQ.out]
        simpa using h9
      rw [← heq] at hrb g1
      have HG := hid hg
      generalize ps[k] = p at *
      generalize qs[k] = q at *
      obtain ⟨rp, x⟩ := p
      obtain ⟨rq, y⟩ := q
      simp only at *
      clear hc hc2 hq1 hq1' hg heq
      go_wp2_with fail
      refine region_listF mixed (c126L x.row x.count blk off cap blk2 off2 bcap ps.length k rp rq) _ (c126_reg _) (c126_m _) ?_ ?_ (c126_ob _ x.row x.count blk off cap blk2 off2 bcap ps.length k rp rq _ hlt hnc hnc2' hcm hcm2 hra hrb (range_cells h0) (range_cells g0) (range_cells h1) (range_cells g1)) ?_
      · rfl
      · exact ⟨.inr rfl, .inr rfl, .inr trivial, .inr trivial, .inr trivial, .inr rfl, .inr trivial, .inr trivial, .inr trivial, .inr trivial, .inr trivial, .inr trivial, .inr trivial, .inr trivial, .inr trivial, .inr trivial, .inr trivial, .inl rfl, .inl rfl, .inl rfl, .inl rfl, .inl rfl, .inl rfl, .inl rfl, .inl rfl, .inl rfl, .inl rfl, .inl rfl, .inl rfl, .inl rfl, .inl rfl, .inl rfl, .inl rfl, .inl rfl, .inl rfl, .inl rfl, .inl rfl, .inl rfl, .inl rfl, .inl rfl, .inl rfl, .inl rfl, trivial⟩
      intro x8 w8 hg8 hk8
      simp only [frameOf, Bool.false_eq_true, if_false, if_true]
      have h41 : x8 41 = .bool false := hk8 41 (by show 41 < 42; decide)
      rw [h41]
      have G8 := hid (grown_trans HG.out hg8)
      clear h41 hk8 hg8 h0 h1 g0 g1 hra hrb
      go_wp2
      go_roundw
      case rel => exact ⟨k + 1, by omega, by go_num, G8.out⟩
      case measure => simp [intOf]; omega
    · obtain rfl : k = ps.length := by omega
      have HG := hid hg
      clear hg
      go_wp2
      go_ret
      exact ⟨rfl, HG.out⟩
set_option maxRecDepth 100000 in
theorem sameBag_walk (a b : Value) (ps qs : List (Value × En)) (w : World) (ha : RBag w a ps) (hb : RBag w b qs) (hpq : ps.map (·.2) = qs.map (·.2)) :
    Calls Try.prog 50 #[a, b] w fun e w' => e = .returned (.bool true) ∧ w.grownBy w' none := by
  obtain ⟨ao, cap, rfl, hnc, hcm⟩ := ha.1.shape
  obtain ⟨bo, bcap, rfl, hnc2, hcm2⟩ := hb.1.shape
  have HA := hid ha
  have HB := hid hb
  have HP := hid hpq
  clear ha hb hpq
  go_enter Try.func50, Try.ntmps50
  go_wp2_with fail
  refine (sameBag22_walk _ _ ps qs w HA.out HB.out HP.out).mono ?_
  rintro e w1 ⟨rfl, hg⟩
  go_wp2
  go_ret
  exact ⟨rfl, hg⟩
end Go.Proofs.Ytkeiffccllfkpaa
