/- Digests: Keyed of the program; Sum, Bytes and Keyed of the reference. -/
import Derived.Test.YteakoleceoclkaaD11
namespace Go.Proofs.Yteakoleceoclkaa
open Go.RowKit
set_option linter.unusedSimpArgs false
set_option linter.unusedVariables false

theorem grow_call {N : Int} (n : Nat) (hN : N = (n : Int)) (hn : n ≤ 1000000000000) (w : World) : Calls Try.prog 105 #[.slice none 0 0, .int .i64 N] w fun e w' => ∃ v, e = .returned v ∧ Own w' 5 1 v 0 [] ∧ Fresh w w' v := by
  subst hN
  exact grow_walk n hn w
set_option maxRecDepth 100000 in
set_option maxHeartbeats 4000000 in
/-- slices.Concat of two slices -/
theorem concat_walk (x y : List Nat) (hx : x.length ≤ 400000000000) (hy : y.length ≤ 400000000000) (s t : Value) (w : World) (hs : Sl w 1 s x.length (bv x)) (ht : Sl w 1 t y.length (bv y)) (B : Nat)
    (hB : w.heap[B]? = some (.cells #[s, t] 108 (0, 0))) :
    Calls Try.prog 89 #[.slice (some ⟨B, 0, none⟩) 2 2] w fun e w' => ∃ v, e = .returned v ∧ Own w' 5 1 v (x.length + y.length) (bv (x ++ y)) ∧ Fresh w w' v := by
  obtain ⟨a1, c1, rfl, p1, p2⟩ := Sl.shape hs
  obtain ⟨a2, c2, rfl, p3, p4⟩ := Sl.shape ht
  have k0 : w.cell? ⟨B, 0, none⟩ = some (.slice a1 x.length c1) := by rw [cell_of_row _ _ _ _ _ _ hB]; rfl
  have k1 : w.cell? ⟨B, 1, none⟩ = some (.slice a2 y.length c2) := by rw [cell_of_row _ _ _ _ _ _ hB]; rfl
  have z0 := block_lt_of_cell k0
  have HS := hid hs
  have HT := hid ht
  have HB := hid hB
  have j1 : (0 : Int) ≤ (x.length : Int) := by omega
  have j2 : (0 : Int) ≤ (x.length : Int) + (y.length : Int) := by omega
  have j3 : decide ((x.length : Int) + (y.length : Int) < 0) = false := by simp; omega
  have j4 : decide ((x.length : Int) < 0) = false := by simp
  clear hs ht hB
  go_enter Try.func89, Try.ntmps89
  refine wp_seq_k fun K1 k1h => ?_
  have HK1 := hid k1h
  clear k1h
  go_wp2
  refine HK1.out _ _ ?_
  clear HK1
  refine wp_seq_k fun K2 k2h => ?_
  have HK2 := hid k2h
  clear k2h
  go_wp2
  refine HK2.out _ _ ?_
  clear HK2
  refine wp_seq_k fun K3 k3h => ?_
  have HK3 := hid k3h
  clear k3h
  go_wp2
  refine wp_loop_rounds 3 ?_
  rw [rounds_succ]
  go_wp2
  rw [rounds_succ]
  go_wp2
  rw [rounds_succ]
  go_wp2
  refine HK3.out _ _ ?_
  clear HK3 k0 k1 z0
  go_wp2_with fail
  refine (grow_call (x.length + y.length) (by simp) (by omega) _).mono ?_
  rintro e w1 ⟨v1, rfl, o1, f1⟩
  have O1 := hid o1
  have F1 := hid f1
  have HB1 := row_of f1.1 HB.out (by simp [Value.ownBlock])
  have k0 : w1.cell? ⟨B, 0, none⟩ = some (.slice a1 x.length c1) := by rw [cell_of_row _ _ _ _ _ _ HB1]; rfl
  have z0 := block_lt_of_cell k0
  have HBB := hid HB1
  have HS1 := hid (Sl.kn HS.out f1.1)
  clear o1 f1 HB1
  go_wp2
  refine wp_loop_rounds 3 ?_
  rw [rounds_succ]
  go_wp2_with (first
    | (refine wpList_app bytesT rfl (.tmp 31) (.tmp 32) rfl _ 0 [] rfl O1.out _ x.length (bv x) rfl HS1.out (bv_all _) (by omega) ?_; intro v2 w2 o2 s2; have O2 := hid o2; have F2 := hid (F1.out.trans s2); have HB2 := hid (row_of s2.1 HBB.out (fun e => Own.ne O1.out HBB.out (by decide) e.symm)); clear o2 s2)
    | fail)
  rw [rounds_succ]
  have k1 : w2.cell? ⟨B, 1, none⟩ = some (.slice a2 y.length c2) := by rw [cell_of_row _ _ _ _ _ _ HB2.out]; rfl
  have z1 := block_lt_of_cell k1
  have HT2 := hid (Sl.kn HT.out F2.out.1)
  rw [Nat.zero_add, List.nil_append] at O2
  go_wp2_with (first
    | (refine wpList_app bytesT rfl (.tmp 31) (.tmp 32) rfl _ x.length (bv x) rfl O2.out _ y.length (bv y) rfl HT2.out (bv_all _) (by omega) ?_; intro v3 w3 o3 s3; have O3 := hid o3; have F3 := hid (F2.out.trans s3); clear o3 s3)
    | fail)
  rw [rounds_succ]
  go_wp2
  go_ret
  exact ⟨_, rfl, by rw [bv_append]; exact O3.out, F3.out⟩
set_option maxRecDepth 100000 in
theorem recKeyed_walk (w : World) : CallsD Try.prog 87 #[] .returning w fun e u' w' => e = .returned (.tuple #[]) ∧ u' = .returning ∧ w' = w := by
  refine callsD_of_wpS Try.func87 rfl fun c₀ cs hu => ?_
  apply wpS_region
  simp [wpOpsS, go_sem, recoverD, hu, Try.ntmps87]
  cases c₀
  simp_all [bodyPostS, results, Try.results87]
/-- three blocks were made ahead of a call -/
theorem pause3 {P : Program} {f : Nat} {args : Array Value} {R : Ending → World → Prop} {w : World} {C : List Value} {x y : Value} (h : ∀ W : World, Hid (w.grownBy W none) → Hid (W.heap[w.heap.size]? = some (.cells C.toArray 29 (0, 0))) → Hid (W.heap[w.heap.size + 1]? = some (.cells (bv (zs 32)).toArray 29 (0, 0))) → Hid (W.heap[w.heap.size + 1 + 1]? = some (.cells #[x, y] 108 (0, 0))) → Calls P f args W R) :
    Calls P f args (((w.alloc (.cells C.toArray 29)).alloc (.cells #[.int .u8 0, .int .u8 0, .int .u8 0, .int .u8 0, .int .u8 0, .int .u8 0, .int .u8 0, .int .u8 0, .int .u8 0, .int .u8 0, .int .u8 0, .int .u8 0, .int .u8 0, .int .u8 0, .int .u8 0, .int .u8 0, .int .u8 0, .int .u8 0, .int .u8 0, .int .u8 0, .int .u8 0, .int .u8 0, .int .u8 0, .int .u8 0, .int .u8 0, .int .u8 0, .int .u8 0, .int .u8 0, .int .u8 0, .int .u8 0, .int .u8 0, .int .u8 0] 29)).alloc (.cells #[x, y] 108)) R :=
  h _ (hid (grown_trans (grown_trans (World.grownBy_alloc _ _ _) (World.grownBy_alloc _ _ _)) (World.grownBy_alloc _ _ _))) (hid (by rw [heap_past (by simp <;> omega), heap_past (by simp), heap_at rfl])) (hid (by rw [heap_past (by simp), heap_at (by simp)]; rfl)) (hid (by rw [heap_at (by simp)]))
def keyed (dom : BitVec 64) (k b : List Nat) : List Nat := dig dom (k ++ b)
set_option maxRecDepth 100000 in
set_option maxHeartbeats 4000000 in
theorem keyed_walk (dom : BitVec 64) (k l : List Nat) (hk : k.length = 32) (hkb : ∀ x ∈ k, x < 256) (hb : ∀ x ∈ l, x < 256) (hl : l.length ≤ 400000000000) (s : Value) (w : World) (h : Sl w 1 s l.length (bv l)) :
    Calls Try.prog 67 #[.int .u64 (wi dom), dval k, s] w fun e w' => e = .returned (dval (keyed dom k l)) ∧ w.grownBy w' none := by
  obtain ⟨ao, cap, rfl, hc1, hc2⟩ := Sl.shape h
  have HS := hid h
  have HB := hid (show ∀ x ∈ k ++ l, x < 256 from fun x hx => (List.mem_append.1 hx).elim (hkb x) (hb x))
  have HK := hid hk
  unfold dval
  obtain ⟨C, hC⟩ : ∃ C, C = bv k := ⟨_, rfl⟩
  rw [← hC]
  have HC := hid hC
  clear h hb hkb hk hC
  go_enter_defers Try.func67, Try.ntmps67
  go_wp2_with fail
  refine pause3 fun W GW B0 B1 B2 => ?_
  rw [HC.out] at B0
  have HK2 := hid (show Sl W 1 (.slice (some ⟨w.heap.size, 0, none⟩) 32 32) k.length (bv k) by rw [HK.out]; exact sl_blk B0.out (by rw [bv_length, HK.out]; omega))
  refine (concat_walk k l (by rw [HK.out]; omega) hl _ _ _ HK2.out (Sl.kn HS.out GW.out) _ B2.out).mono ?_
  rintro e w1 ⟨v1, rfl, o1, f1⟩
  have O1 := hid o1
  have G1 := hid (grown_trans GW.out f1.1)
  have Z1 := hid (row_of f1.1 B1.out (by simp [Value.ownBlock]))
  clear o1 f1 B0 B1 B2 HK2
  go_wp2_with fail
  have hO := Sl.of_own O1.out
  refine (sum_walk dom (k ++ l) HB.out (by rw [List.length_append, HK.out]; omega) _ _ (by rw [List.length_append]; exact hO)).mono ?_
  clear hO
  rintro e w2 ⟨rfl, g2⟩
  have Z2 := hid (row_of g2 Z1.out (by simp))
  have G2 := hid (grown_trans G1.out g2)
  have HL := hid (dig_len dom (k ++ l))
  clear g2
  go_wp2_with (first
    | (refine wpList_storeTYg rfl 29 (.tmp 6) (.tmp 12) rfl rfl rfl (tyD (dig dom (k ++ l)) HL.out) Z2.out (by rw [bv_length, HL.out]; rfl) ?_; intro w9 g9 h9; have G9 := hid g9; have H9 := hid h9; clear g9 h9)
    | fail)
  refine leaves_cons (f := 87) (args := #[]) (by simp) (by simp [go_sem]) ?_
  refine (recKeyed_walk _).mono ?_
  rintro e u' w'' ⟨rfl, rfl, rfl⟩
  exact ⟨_, results1 (p := 6) (b0 := w.heap.size + 1) rfl rfl (tyD (dig dom (k ++ l)) HL.out) H9.out, rfl, grown_newR G2.out G9.out (Nat.le_succ _)⟩
end Go.Proofs.Yteakoleceoclkaa
