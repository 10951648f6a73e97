/- The law's fits. -/
import Derived.Test.YtkeiffccllfkpaaN17
import Derived.Test.YtkeiffccllfkpaaN14
import Derived.Test.YtkeiffccllfkpaaN18
namespace Go.Proofs.Ytkeiffccllfkpaa
open Go.RowKit
set_option linter.unusedSimpArgs false

theorem wpList_onG {P : Program} {ops : Array Oper} {rest : List Oper} {o : Oper} {a : Act} {w : World} {Q : Exit → Act → World → Prop} (hw : Region.wanted o (yielded ops a.tmps) = true)
    (h : ∀ K, (∀ a' w', wpList P ops Q rest a' w' → K a' w') → Oper.wp P o a w K Q) : wpList P ops Q (o :: rest) a w := by
  unfold Go.wpList
  rw [if_pos hw]
  exact .inl (h _ fun _ _ h => h)
theorem wpList_loadG {P : Program} {ops : Array Oper} {rest : List Oper} {o : Oper} {a : Act} {w : World} {Q : Exit → Act → World → Prop} (hw : Region.wanted o (yielded ops a.tmps) = true) (T : TypeId) (x : Operand) (ho : o.op = .load T x)
    {b k : Nat} {cs : List Value} {v : Value} (hx : a.eval x = .pointer (some ⟨b, k, none⟩)) (ty : TY P T cs v) (hr : w.rangeAt b k cs)
    (h : wpList P ops Q rest (a.put o.dst v) w) : wpList P ops Q (o :: rest) a w := by
  refine wpList_onG hw fun K hK => ?_
  have hl := ty.load w b k hr
  unfold Oper.wp execOp
  simp only [ho, hx, Instr.loadAt, Instr.sureAddr, Sem.run_bind, Sem.run_pure, Result.andThen_ok, hl]
  exact hK _ _ h
structure LE.sm (e : LE) : Prop where
  vers : e.vers.length ≤ 40
  srcs : e.srcs.length ≤ 40
  req : e.req.who.ns.size ≤ 16
  lnka : e.lnk.a.ns.size ≤ 16
  lnkb : e.lnk.b.ns.size ≤ 16
  hld : e.hld.who.ns.size ≤ 16
theorem LE.sm.fits {e : LE} (h : e.sm) : e.fits := ⟨h.req, h.lnka, h.lnkb, h.hld, by have := h.vers; omega, by have := h.srcs; omega⟩
theorem le_who (e : LE) (v s : Value) : ((lecells e v s).drop 5).take (idfcells e.req.who).length = idfcells e.req.who := rfl
theorem le_la (e : LE) (v s : Value) : ((lecells e v s).drop 12).take (idfcells e.lnk.a).length = idfcells e.lnk.a := rfl
theorem le_lb (e : LE) (v s : Value) : ((lecells e v s).drop 16).take (idfcells e.lnk.b).length = idfcells e.lnk.b := rfl
theorem le_hw (e : LE) (v s : Value) : ((lecells e v s).drop 24).take (idfcells e.hld.who).length = idfcells e.hld.who := rfl

set_option maxRecDepth 100000 in
set_option maxHeartbeats 1000000 in
theorem fits_walk (e : LE) (v s : Value) (w : World) (hv : Sl w 3 v e.vers.length (e.vers.flatMap vercells)) (hs : Sl w 2 s e.srcs.length (e.srcs.flatMap srccells)) :
    Calls Try.prog 59 #[leval e v s] w fun en w' => (en = .returned (.bool false) ∧ w.grownBy w' none) ∨ (en = .returned (.bool true) ∧ e.sm ∧ w.grownBy w' none) := by
  have TV := hid (tyVersS hv)
  have TS := hid (tySrcsS hs)
  obtain ⟨ao, cap, rfl, _, _⟩ := hv.shape
  obtain ⟨bo, cap2, rfl, _, _⟩ := hs.shape
  clear hv hs
  show Calls Try.prog 59 #[.agg (lecells e (.slice ao e.vers.length cap) (.slice bo e.srcs.length cap2)).toArray] w _
  have P1 := le_vs e (.slice ao e.vers.length cap) (.slice bo e.srcs.length cap2)
  have P2 := le_ss e (.slice ao e.vers.length cap) (.slice bo e.srcs.length cap2)
  have P3 := le_who e (.slice ao e.vers.length cap) (.slice bo e.srcs.length cap2)
  have P4 := le_la e (.slice ao e.vers.length cap) (.slice bo e.srcs.length cap2)
  have P5 := le_lb e (.slice ao e.vers.length cap) (.slice bo e.srcs.length cap2)
  have P6 := le_hw e (.slice ao e.vers.length cap) (.slice bo e.srcs.length cap2)
  generalize lecells e (.slice ao e.vers.length cap) (.slice bo e.srcs.length cap2) = C at *
  have hb := heap_at (w := w) (o := .cells C.toArray 111) rfl
  have R1 := hid (range_row hb 31 [.slice ao e.vers.length cap] P1)
  have R2 := hid (range_row hb 32 [.slice bo e.srcs.length cap2] P2)
  have R3 := hid (range_row hb 5 (idfcells e.req.who) P3)
  have R4 := hid (range_row hb 12 (idfcells e.lnk.a) P4)
  have R5 := hid (range_row hb 16 (idfcells e.lnk.b) P5)
  have R6 := hid (range_row hb 24 (idfcells e.hld.who) P6)
  have GA := hid (World.grownBy_alloc w (.cells C.toArray 111) none)
  clear hb P1 P2 P3 P4 P5 P6
  go_enter Try.func59, Try.ntmps59
  by_cases h1' : e.vers.length ≤ 40
  rotate_left
  · have h1 := hid (Nat.not_le.1 h1')
    clear h1'
    have d1 : decide ((e.vers.length : Int) ≤ 40) = false := decide_eq_false (by have := h1.out; omega)
    go_wp2_with (first | (refine wpList_loadAt rfl 42 (.tmp 3) rfl rfl TV.out R1.out ?_) | fail)
    go_ret
    exact .inl ⟨rfl, GA.out⟩
  have h1 := hid h1'
  clear h1'
  have d1 : decide ((e.vers.length : Int) ≤ 40) = true := decide_eq_true (by have := h1.out; omega)
  by_cases h2' : e.srcs.length ≤ 40
  rotate_left
  · have h2 := hid (Nat.not_le.1 h2')
    clear h2'
    have d2 : decide ((e.srcs.length : Int) ≤ 40) = false := decide_eq_false (by have := h2.out; omega)
    go_wp2_with (first | (refine wpList_loadAt rfl 42 (.tmp 3) rfl rfl TV.out R1.out ?_) | (refine wpList_loadG rfl 43 (.tmp 8) rfl rfl TS.out R2.out ?_) | fail)
    go_ret
    exact .inl ⟨rfl, GA.out⟩
  have h2 := hid h2'
  clear h2'
  have d2 : decide ((e.srcs.length : Int) ≤ 40) = true := decide_eq_true (by have := h2.out; omega)
  go_wp2_with (first | (refine wpList_loadAt rfl 42 (.tmp 3) rfl rfl TV.out R1.out ?_) | (refine wpList_loadG rfl 43 (.tmp 8) rfl rfl TS.out R2.out ?_) | (refine wpList_loadG rfl 103 (.tmp 15) rfl rfl (tyIdf e.req.who) R3.out ?_) | fail)
  refine (named_walk e.req.who _).mono ?_
  rintro en w3 ⟨rfl, g3⟩
  have G3 := hid (grown_trans GA.out g3)
  have R4n := hid (rangeAt_kept R4.out g3)
  have R5n := hid (rangeAt_kept R5.out g3)
  have R6n := hid (rangeAt_kept R6.out g3)
  clear g3
  generalize hb3 : decide (e.req.who.ns.size ≤ 16) = b3
  have HB3 := hid hb3
  clear hb3
  cases b3
  · go_wp2
    go_ret
    exact .inl ⟨rfl, G3.out⟩
  go_wp2_with (first | (refine wpList_loadG rfl 103 (.tmp 21) rfl rfl (tyIdf e.lnk.a) R4n.out ?_) | fail)
  refine (named_walk e.lnk.a _).mono ?_
  rintro en w4 ⟨rfl, g4⟩
  have G4 := hid (grown_trans G3.out g4)
  have R5nn := hid (rangeAt_kept R5n.out g4)
  have R6nn := hid (rangeAt_kept R6n.out g4)
  clear g4
  generalize hb4 : decide (e.lnk.a.ns.size ≤ 16) = b4
  have HB4 := hid hb4
  clear hb4
  cases b4
  · go_wp2
    go_ret
    exact .inl ⟨rfl, G4.out⟩
  go_wp2_with (first | (refine wpList_loadG rfl 103 (.tmp 27) rfl rfl (tyIdf e.lnk.b) R5nn.out ?_) | fail)
  refine (named_walk e.lnk.b _).mono ?_
  rintro en w5 ⟨rfl, g5⟩
  have G5 := hid (grown_trans G4.out g5)
  have R6nnn := hid (rangeAt_kept R6nn.out g5)
  clear g5
  generalize hb5 : decide (e.lnk.b.ns.size ≤ 16) = b5
  have HB5 := hid hb5
  clear hb5
  cases b5
  · go_wp2
    go_ret
    exact .inl ⟨rfl, G5.out⟩
  go_wp2_with (first | (refine wpList_loadG rfl 103 (.tmp 33) rfl rfl (tyIdf e.hld.who) R6nnn.out ?_) | fail)
  refine (named_walk e.hld.who _).mono ?_
  rintro en w6 ⟨rfl, g6⟩
  have G6 := hid (grown_trans G5.out g6)
  clear g6
  generalize hb6 : decide (e.hld.who.ns.size ≤ 16) = b6
  have HB6 := hid hb6
  clear hb6
  cases b6
  · go_wp2
    go_ret
    exact .inl ⟨rfl, G6.out⟩
  go_wp2
  go_ret
  exact .inr ⟨rfl, ⟨h1.out, h2.out, of_decide_eq_true HB3.out, of_decide_eq_true HB4.out, of_decide_eq_true HB5.out, of_decide_eq_true HB6.out⟩, G6.out⟩
end Go.Proofs.Ytkeiffccllfkpaa
