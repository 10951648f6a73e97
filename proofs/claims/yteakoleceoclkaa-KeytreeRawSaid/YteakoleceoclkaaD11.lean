/- Digests: Sum of the program and of the reference. -/
import Derived.Test.YteakoleceoclkaaD10
import Derived.Deep.RegionHeld3
import Derived.Lib.AppendZeros
namespace Go.Proofs.Yteakoleceoclkaa
open Go.RowKit
set_option linter.unusedSimpArgs false
set_option linter.unusedVariables false

/-- a digest as a value -/
def dval (l : List Nat) : Value := .agg (bv l).toArray
theorem results1 {P : Program} {fn : Func} {p : Tmp} {T : TypeId} (h : fn.results = #[.cell p T]) {tmps : Array Value} {w : World} {b0 : Nat} {c0 : List Value} {v0 : Value} {fr0 : Nat × Nat} {u0 : TypeId}
    (hp : tmps.getD p undef = ptr b0) (t0 : TY P T c0 v0)
    (h0 : w.heap[b0]? = some (.cells c0.toArray u0 fr0)) :
    (results fn tmps).run P w = .ok v0 w := by
  have e0 := t0.load w b0 0 (rangeAt_row h0)
  have hp' : tmps[p]?.getD undef = .pointer (some ⟨b0, 0, none⟩) := by simpa [ptr] using hp
  simp [results, h, hp', asAddr, e0]
theorem tyD (l : List Nat) (h : l.length = 32) : TY Try.prog 29 (bv l) (dval l) := by
  refine TY.agg Try.underlying29 rfl ?_ (bv_ones l)
  rw [bv_length, h]
  kernel_rfl
set_option maxRecDepth 100000 in
theorem recSum_walk (w : World) : CallsD Try.prog 102 #[] .returning w fun e u' w' => e = .returned (.tuple #[]) ∧ u' = .returning ∧ w' = w := by
  refine callsD_of_wpS Try.func102 rfl fun c₀ cs hu => ?_
  apply wpS_region
  simp [wpOpsS, go_sem, recoverD, hu, Try.ntmps102]
  cases c₀
  simp_all [bodyPostS, results, Try.results102]
/-- two blocks of zeros were made -/
theorem pause2 {K : World → Prop} {w : World} (h : ∀ W : World, Hid (w.grownBy W none) → Hid (W.heap[w.heap.size]? = some (.cells (bv (zs 32)).toArray 29 (0, 0))) → Hid (W.heap[w.heap.size + 1]? = some (.cells (bv (zs 32)).toArray 29 (0, 0))) → K W) :
    K ((w.alloc (.cells #[.int .u8 0, .int .u8 0, .int .u8 0, .int .u8 0, .int .u8 0, .int .u8 0, .int .u8 0, .int .u8 0, .int .u8 0, .int .u8 0, .int .u8 0, .int .u8 0, .int .u8 0, .int .u8 0, .int .u8 0, .int .u8 0, .int .u8 0, .int .u8 0, .int .u8 0, .int .u8 0, .int .u8 0, .int .u8 0, .int .u8 0, .int .u8 0, .int .u8 0, .int .u8 0, .int .u8 0, .int .u8 0, .int .u8 0, .int .u8 0, .int .u8 0, .int .u8 0] 29)).alloc (.cells #[.int .u8 0, .int .u8 0, .int .u8 0, .int .u8 0, .int .u8 0, .int .u8 0, .int .u8 0, .int .u8 0, .int .u8 0, .int .u8 0, .int .u8 0, .int .u8 0, .int .u8 0, .int .u8 0, .int .u8 0, .int .u8 0, .int .u8 0, .int .u8 0, .int .u8 0, .int .u8 0, .int .u8 0, .int .u8 0, .int .u8 0, .int .u8 0, .int .u8 0, .int .u8 0, .int .u8 0, .int .u8 0, .int .u8 0, .int .u8 0, .int .u8 0, .int .u8 0] 29)) :=
  h _ (hid (grown_trans (World.grownBy_alloc _ _ _) (World.grownBy_alloc _ _ _))) (hid (by rw [heap_past (by simp), heap_at rfl]; rfl)) (hid (by rw [heap_at (by simp)]; rfl))
set_option maxRecDepth 100000 in
set_option maxHeartbeats 4000000 in
theorem sum_walk (dom : BitVec 64) (l : List Nat) (hb : ∀ x ∈ l, x < 256) (hl : l.length ≤ 1099511627776) (s : Value) (w : World) (h : Sl w 1 s l.length (bv l)) :
    Calls Try.prog 88 #[.int .u64 (wi dom), s] w fun e w' => e = .returned (dval (dig dom l)) ∧ w.grownBy w' none := by
  obtain ⟨ao, cap, rfl, hc1, hc2⟩ := Sl.shape h
  have HS := hid h
  have HB := hid hb
  clear h hb
  go_enter_defers Try.func88, Try.ntmps88
  go_wp2
  refine pause2 fun W GW Z0 Z1 => ?_
  have HS2 := hid (Sl.kn (Sl.kn HS.out GW.out) (grown_drew _))
  clear HS
  refine wp_region_noPanic ?_
  go_region_law (go_simp; first
    | (refine (absorb_walk dom l HB.out hl _ _ HS2.out).mono ?_; rintro e v6 ⟨rfl, g6⟩; have G6 := hid g6; clear g6; dsimp only)
    | (refine (squeeze_walk (absorb dom l) 32 (by omega) (w.heap.size + 1) 29 _ (row_of G6.out (show W.drew.heap[w.heap.size + 1]? = some (.cells (bv (zs 32)).toArray 29 (0, 0)) from Z1.out) (by simp))).mono ?_; rintro e v7 ⟨rfl, g7, h7⟩; have G7 := hid g7; have H7 := hid h7; clear g7 h7; dsimp only)
    | fail)
  refine NoPanic.normal ?_
  have HL := hid (dig_len dom l)
  rw [show sq (absorb dom l) 32 = dig dom l from rfl] at H7
  have Z3 := hid (row_of G7.out (row_of G6.out (show W.drew.heap[w.heap.size]? = some (.cells (bv (zs 32)).toArray 29 (0, 0)) from Z0.out) (by simp)) (by simp))
  have GG := hid (grown_newR (grown_trans (grown_trans GW.out (grown_drew W)) G6.out) G7.out (Nat.le_succ _))
  go_wp2_with (first
    | (refine wpList_loadTY rfl 29 (.tmp 5) rfl rfl (tyD (dig dom l) HL.out) H7.out ?_)
    | (refine wpList_storeTYg rfl 29 (.tmp 4) (.tmp 11) rfl rfl rfl (tyD (dig dom l) HL.out) Z3.out (by rw [bv_length, HL.out]; rfl) ?_; intro w9 g9 h9; have G9 := hid g9; have H9 := hid h9; clear g9 h9)
    | fail)
  refine leaves_cons (f := 102) (args := #[]) (by simp) (by simp [go_sem]) ?_
  refine (recSum_walk _).mono ?_
  rintro e u' w'' ⟨rfl, rfl, rfl⟩
  exact ⟨_, results1 (p := 4) (b0 := w.heap.size) rfl rfl (tyD (dig dom l) HL.out) H9.out, rfl, grown_newR GG.out G9.out (Nat.le_refl _)⟩
/-- slices.Grow of a nil slice -/
theorem grow_walk (n : Nat) (hn : n ≤ 1000000000000) (w : World) : Calls Try.prog 105 #[.slice none 0 0, .int .i64 n] w fun e w' => ∃ v, e = .returned v ∧ Own w' 5 1 v 0 [] ∧ Fresh w w' v := by
  by_cases h0 : n = 0
  · subst h0
    go_enter Try.func105, Try.ntmps105
    go_wp2
    go_ret
    exact ⟨_, rfl, Own.nil _ _ _, Step.refl _ _⟩
  · have i0 : (0 : Int) ≤ (n : Int) := by omega
    have t0 : decide ((n : Int) < 0) = false := by simp
    have t1 : decide (0 < n) = true := by simp; omega
    obtain ⟨i1, hi1, hz1, hs1, hb1⟩ := bytesT.inf
    have hr := Lib.run_append_nil_zeros (P := Try.prog) w 108 3 108 5 i1 (.int .u8 0) .i64 .i64 Try.underlying108 Try.underlying3 hi1 hz1 n (by omega) (by omega) (by omega) (by rw [hb1]; omega)
    have hge := grownCap_ge w n 0 5
    have hle : grownCap w n 0 5 ≤ maxLen := grownCap_le_maxLen w n 0 5 (by unfold maxLen; omega)
    have hzs : ∀ k, (Builtin.zeroCells (Value.int .u8 0).cells k).size = k := by intro k; simp [Builtin.zeroCells, Value.cells]
    obtain ⟨G, hG⟩ : ∃ G, G = grownCap w n 0 5 := ⟨_, rfl⟩
    obtain ⟨C, hC⟩ : ∃ C, C = Builtin.zeroCells (Value.int .u8 0).cells n ++ Builtin.zeroCells (Value.int .u8 0).cells (G - n) := ⟨_, rfl⟩
    have hCs : C.size = G := by rw [hC, Array.size_append, hzs, hzs]; omega
    rw [← hG] at hr hge hle
    rw [← hC] at hr
    have HR := hid hr
    have HLE := hid hle
    have HCS := hid hCs
    have g0 : ¬ G = 0 := by omega
    have g1 : (0 : Int) ≤ (G : Int) := by omega
    clear hr hle hge hG hC hCs hzs hi1 hz1 hs1 hb1
    go_enter Try.func105, Try.ntmps105
    go_wp2_with (first | (at_builtin; refine Lib.wpList_append_run _ rfl (.tmp 20) (.tmp 21) 108 3 rfl _ _ rfl rfl _ _ HR.out ?_) | fail)
    go_ret
    refine ⟨_, rfl, ⟨rfl, .inr ⟨w.heap.size, G, C, rfl, Nat.zero_le _, ?_, Nat.zero_le _, HLE.out, ?_, rfl⟩⟩, ⟨grown_trans (grown_drew w) (World.grownBy_alloc _ _ _), fun k hk => .inr ?_⟩⟩
    · exact heap_at rfl
    · rw [HCS.out, Nat.mul_one]
    · simp [Value.ownBlock] at hk; omega
end Go.Proofs.Yteakoleceoclkaa
