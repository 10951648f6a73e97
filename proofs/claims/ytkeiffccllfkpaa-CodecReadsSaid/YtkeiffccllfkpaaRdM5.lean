import Derived.Test.YtkeiffccllfkpaaRdM3
import Derived.Test.YtkeiffccllfkpaaRdM6
import Derived.Deep.Slices
import Derived.ChangeKeysEq
import Derived.Deep.RegionHeld3
import Derived.Test.YtkeiffccllfkpaaRdM4
set_option linter.unusedSimpArgs false
set_option linter.unusedVariables false
set_option maxRecDepth 100000
set_option maxHeartbeats 1000000
/- Arguments opened; digests compared. (merged by merge.py) -/
namespace Go.Proofs.Ytkeiffccllfkpaa
/-! ## Open -/
/-! ## Open2 -/
section
open Go.ChangeShapes Go.WideShapes Go.ChangeAt Go.RowKit Go.Deep
theorem cells5 : Try.prog.cellsOf 5 = 1 := by kernel_rfl
end
/-! ## EqDig -/
section
open Go.RowKit
theorem plain5 : Try.prog.plainKey 5 = true := by kernel_rfl
theorem eqItems_same (d : Nat) (x : List Nat) (w : World) : ∀ is : List Nat, (∀ i ∈ is, i < x.length) → (Op.eqItems (d + 1) 5 1 (bv x).toArray (bv x).toArray is).run Try.prog w = .ok true w
 | [], _ => by simp [Op.eqItems]
 | i :: is, h => by
   have hi := h i List.mem_cons_self
   have hx : (bv x).toArray[i * 1]? = some (.int .u8 (x[i] : Int)) := by simp [bv, List.getElem?_eq_getElem hi]
   have p1 := run_part_plain (P := Try.prog) (w := w) plain5 hx
   have ih := eqItems_same d x w is (fun j hj => h j (List.mem_cons_of_mem _ hj))
   simp only [Op.eqItems, Sem.run_bind, p1, Result.andThen_ok, run_equalIn_int w d 5 .u8 .u8 _ _ Try.underlying5, beq_self_eq_true]
   simpa using ih
theorem dig_eq (x : List Nat) (h : x.length = 32) (px py : Operand) (w : World) : (do eqGuard .eql 45 px py (.agg (bv x).toArray) (.agg (bv x).toArray); binOp .eql 45 (.agg (bv x).toArray) (.agg (bv x).toArray) : Sem Value).run Try.prog w = .ok (.bool true) w := by
 have hg : Try.prog.eqGuardType Try.prog.depth 45 = false := by kernel_rfl
 obtain ⟨i, hi⟩ : ∃ i, Try.prog.info? 5 = some i := by
   have : (Try.prog.info? 5).isSome = true := by kernel_rfl
   exact Option.isSome_iff_exists.1 this
 have he := run_equalIn_array (P := Try.prog) (w := w) 9999 (bv x).toArray (bv x).toArray Try.underlying45 hi
 rw [cells5, eqItems_same 9998 x w _ (fun j hj => by rw [h]; exact List.mem_range.1 hj)] at he
 rw [Sem.run_bind, run_eqGuard_agg (hm := hg), Result.andThen_ok, run_eql_struct, he]
 rfl
end
end Go.Proofs.Ytkeiffccllfkpaa
/- Exported appenders of lists; the reference's lists. (merged by merge.py) -/
namespace Go.Proofs.Ytkeiffccllfkpaa
/-! ## Ap2 -/
section
open Go.RowKit
def DVers (B : Nat) (w : World) (s : Value) (l : List Ver) : Prop := Sl w 3 s l.length (l.flatMap vercells) ∧ Lo s B
theorem DVers.below {B : Nat} {w w' : World} {s : Value} {l : List Ver} (h : DVers B w s l) (hb : Below B w w') : DVers B w' s l := ⟨h.1.below hb h.2, h.2⟩
def DSrcs (B : Nat) (w : World) (s : Value) (l : List Src) : Prop := Sl w 2 s l.length (l.flatMap srccells) ∧ Lo s B
theorem DSrcs.below {B : Nat} {w w' : World} {s : Value} {l : List Src} (h : DSrcs B w s l) (hb : Below B w w') : DSrcs B w' s l := ⟨h.1.below hb h.2, h.2⟩
end
/-! ## Aw1 -/
/-! ## RefL -/
section
open Go.RowKit
theorem Own.empty (w : World) : Own (w.alloc (.cells #[] 5)) 5 1 (.slice (some ⟨w.heap.size, 0, none⟩) 0 0) 0 [] :=
 ⟨rfl, .inr ⟨w.heap.size, 0, #[], rfl, Nat.zero_le _, heap_at rfl, Nat.le_refl _, by unfold maxLen; omega, rfl, rfl⟩⟩
end
/-! ## RefL2 -/
/-! ## Same -/
section
open Go.RowKit
deriving instance DecidableEq for Ver
deriving instance DecidableEq for Src
theorem take_eq_of {α : Type} [DecidableEq α] {l m : List α} (h : l.length = m.length) (k : Nat) (hk : k < l.length) (hm : k < m.length) (ht : l.take k = m.take k) : l[k] ≠ m[k] → l ≠ m := fun h2 e => by subst e; exact h2 rfl
theorem take_succ_eq {α : Type} {l m : List α} (k : Nat) (hk : k < l.length) (hm : k < m.length) (ht : l.take k = m.take k) (h : l[k] = m[k]) : l.take (k + 1) = m.take (k + 1) := by
 rw [List.take_add_one, List.take_add_one, List.getElem?_eq_getElem hk, List.getElem?_eq_getElem hm, ht, h]
theorem sameVers22_walk (a b : Value) (l m : List Ver) (w : World) (ha : Sl w 3 a l.length (l.flatMap vercells)) (hb : Sl w 3 b m.length (m.flatMap vercells)) :
   Calls Try.prog 110 #[a, b] w fun e w' => e = .returned (.bool (decide (l = m))) ∧ w.grownBy w' none := by
 obtain ⟨ao, cap, rfl, hnc, hcm⟩ := ha.shape
 obtain ⟨bo, bcap, rfl, hnc2, hcm2⟩ := hb.shape
 have HA := hid ha
 have HB := hid hb
 clear ha hb
 go_enter Try.func110, Try.ntmps110
 by_cases hlen : l.length = m.length
 · have e0 : ((l.length : Int) != m.length) = false := by simp; omega
   have HLEN := hid hlen
   clear hlen
   go_wp2
   go_loopw [5] (fun i wr => ∃ k : Nat, k ≤ l.length ∧ i = .int .i64 k ∧ l.take k = m.take k ∧ w.grownBy wr none) (fun i _ => l.length - (intOf i).toNat)
   case atStart => exact ⟨0, Nat.zero_le _, rfl, rfl, World.grownBy.refl _ _⟩
   case round =>
     obtain ⟨k, hk, rfl, ht, hg⟩ := hrel
     by_cases hlt : k < l.length
     · have hm : k < m.length := by have := HLEN.out; omega
       obtain ⟨blk, off, rfl, hc⟩ := (HA.out.kept hg (by cases (Value.slice ao l.length cap).ownBlock <;> simp)).elem (fun x _ => rfl) (by decide) k hlt
       obtain ⟨blk2, off2, rfl, hc2⟩ := (HB.out.kept hg (by cases (Value.slice bo m.length bcap).ownBlock <;> simp)).elem (fun x _ => rfl) (by decide) k hm
       have h0 : wr.cell? ⟨blk, off + k * 3, none⟩ = some (.int .i64 l[k].table) := hc 0 _ rfl
       have h1 : wr.cell? ⟨blk, off + k * 3 + 1, none⟩ = some (.int .i64 l[k].column) := hc 1 _ rfl
       have h2 : wr.cell? ⟨blk, off + k * 3 + 2, none⟩ = some (.int .i64 l[k].seq) := hc 2 _ rfl
       have g0 : wr.cell? ⟨blk2, off2 + k * 3, none⟩ = some (.int .i64 m[k].table) := hc2 0 _ rfl
       have g1 : wr.cell? ⟨blk2, off2 + k * 3 + 1, none⟩ = some (.int .i64 m[k].column) := hc2 1 _ rfl
       have g2 : wr.cell? ⟨blk2, off2 + k * 3 + 2, none⟩ = some (.int .i64 m[k].seq) := hc2 2 _ rfl
       have HT := hid (take_succ_eq k hlt hm ht)
       have HN := hid (take_eq_of HLEN.out k hlt hm ht)
       have HG := hid hg
       generalize l[k] = x at *
       generalize m[k] = y at *
       obtain ⟨xt, xc, xs⟩ := x
       obtain ⟨yt, yc, ys⟩ := y
       clear hc hc2 hg
       simp only at *
       by_cases q : (⟨xt, xc, xs⟩ : Ver) = ⟨yt, yc, ys⟩
       · cases q
         go_wp2
         go_region
         go_wp2
         go_roundw
         case rel => exact ⟨k + 1, by omega, by go_num, HT.out (by simp), grown_trans HG.out (grown_drew wr)⟩
         case measure => simp [intOf]; omega
       · have hlm : (decide (l = m)) = false := decide_eq_false (HN.out q)
         have q2 : xt = yt → xc = yc → xs = ys → False := fun h1 h2 h3 => q (by subst h1 h2 h3; rfl)
         have HQ := hid hlm
         clear q hlm
         by_cases q1 : xt = yt
         · by_cases q3 : xc = yc
           · by_cases q4 : xs = ys
             · exact (q2 q1 q3 q4).elim
             · clear q2
               go_wp2
               go_region
               go_wp2
               go_ret
               exact ⟨by rw [HQ.out]; rfl, grown_trans HG.out (grown_drew wr)⟩
           · clear q2
             go_wp2
             go_region
             go_wp2
             go_ret
             exact ⟨by rw [HQ.out]; rfl, grown_trans HG.out (grown_drew wr)⟩
         · clear q2
           go_wp2
           go_region
           go_wp2
           go_ret
           exact ⟨by rw [HQ.out]; rfl, grown_trans HG.out (grown_drew wr)⟩
     · obtain rfl : k = l.length := by omega
       have hlm : (decide (l = m)) = true := decide_eq_true (by rw [List.take_length, List.take_of_length_le (by have := HLEN.out; omega)] at ht; exact ht)
       have HQ := hid hlm
       have HG := hid hg
       clear hlm hg ht
       go_wp2
       go_ret
       exact ⟨by rw [HQ.out]; rfl, HG.out⟩
 · have e0 : ((l.length : Int) != m.length) = true := by simp; omega
   have hlm : (decide (l = m)) = false := decide_eq_false (fun e => hlen (by rw [e]))
   have HQ := hid hlm
   clear hlm
   go_wp2
   go_ret
   exact ⟨by rw [HQ.out]; rfl, World.grownBy.refl _ _⟩
end
/-! ## Same2 -/
section
open Go.RowKit
theorem sameSrcs22_walk (a b : Value) (l m : List Src) (w : World) (ha : Sl w 2 a l.length (l.flatMap srccells)) (hb : Sl w 2 b m.length (m.flatMap srccells)) :
   Calls Try.prog 111 #[a, b] w fun e w' => e = .returned (.bool (decide (l = m))) ∧ w.grownBy w' none := by
 obtain ⟨ao, cap, rfl, hnc, hcm⟩ := ha.shape
 obtain ⟨bo, bcap, rfl, hnc2, hcm2⟩ := hb.shape
 have HA := hid ha
 have HB := hid hb
 clear ha hb
 go_enter Try.func111, Try.ntmps111
 by_cases hlen : l.length = m.length
 · have e0 : ((l.length : Int) != m.length) = false := by simp; omega
   have HLEN := hid hlen
   clear hlen
   go_wp2
   go_loopw [5] (fun i wr => ∃ k : Nat, k ≤ l.length ∧ i = .int .i64 k ∧ l.take k = m.take k ∧ w.grownBy wr none) (fun i _ => l.length - (intOf i).toNat)
   case atStart => exact ⟨0, Nat.zero_le _, rfl, rfl, World.grownBy.refl _ _⟩
   case round =>
     obtain ⟨k, hk, rfl, ht, hg⟩ := hrel
     by_cases hlt : k < l.length
     · have hm : k < m.length := by have := HLEN.out; omega
       obtain ⟨blk, off, rfl, hc⟩ := (HA.out.kept hg (by cases (Value.slice ao l.length cap).ownBlock <;> simp)).elem (fun x _ => rfl) (by decide) k hlt
       obtain ⟨blk2, off2, rfl, hc2⟩ := (HB.out.kept hg (by cases (Value.slice bo m.length bcap).ownBlock <;> simp)).elem (fun x _ => rfl) (by decide) k hm
       have h0 : wr.cell? ⟨blk, off + k * 2, none⟩ = some (.int .i64 l[k].table) := hc 0 _ rfl
       have h1 : wr.cell? ⟨blk, off + k * 2 + 1, none⟩ = some (.int .i64 l[k].seq) := hc 1 _ rfl
       have g0 : wr.cell? ⟨blk2, off2 + k * 2, none⟩ = some (.int .i64 m[k].table) := hc2 0 _ rfl
       have g1 : wr.cell? ⟨blk2, off2 + k * 2 + 1, none⟩ = some (.int .i64 m[k].seq) := hc2 1 _ rfl
       have HT := hid (take_succ_eq k hlt hm ht)
       have HN := hid (take_eq_of HLEN.out k hlt hm ht)
       have HG := hid hg
       generalize l[k] = x at *
       generalize m[k] = y at *
       obtain ⟨xt, xs⟩ := x
       obtain ⟨yt, ys⟩ := y
       clear hc hc2 hg
       simp only at *
       by_cases q : (⟨xt, xs⟩ : Src) = ⟨yt, ys⟩
       · cases q
         go_wp2
         go_region
         go_wp2
         go_roundw
         case rel => exact ⟨k + 1, by omega, by go_num, HT.out (by simp), grown_trans HG.out (grown_drew wr)⟩
         case measure => simp [intOf]; omega
       · have hlm : (decide (l = m)) = false := decide_eq_false (HN.out q)
         have q2 : xt = yt → xs = ys → False := fun h1 h2 => q (by subst h1 h2; rfl)
         have HQ := hid hlm
         clear q hlm
         by_cases q1 : xt = yt
         · by_cases q4 : xs = ys
           · exact (q2 q1 q4).elim
           · clear q2
             go_wp2
             go_region
             go_wp2
             go_ret
             exact ⟨by rw [HQ.out]; rfl, grown_trans HG.out (grown_drew wr)⟩
         · clear q2
           go_wp2
           go_region
           go_wp2
           go_ret
           exact ⟨by rw [HQ.out]; rfl, grown_trans HG.out (grown_drew wr)⟩
     · obtain rfl : k = l.length := by omega
       have hlm : (decide (l = m)) = true := decide_eq_true (by rw [List.take_length, List.take_of_length_le (by have := HLEN.out; omega)] at ht; exact ht)
       have HQ := hid hlm
       have HG := hid hg
       clear hlm hg ht
       go_wp2
       go_ret
       exact ⟨by rw [HQ.out]; rfl, HG.out⟩
 · have e0 : ((l.length : Int) != m.length) = true := by simp; omega
   have hlm : (decide (l = m)) = false := decide_eq_false (fun e => hlen (by rw [e]))
   have HQ := hid hlm
   clear hlm
   go_wp2
   go_ret
   exact ⟨by rw [HQ.out]; rfl, World.grownBy.refl _ _⟩
theorem sameVers_walk (a b : Value) (l m : List Ver) (w : World) (ha : Sl w 3 a l.length (l.flatMap vercells)) (hb : Sl w 3 b m.length (m.flatMap vercells)) :
   Calls Try.prog 35 #[a, b] w fun e w' => e = .returned (.bool (decide (l = m))) ∧ w.grownBy w' none := by
 obtain ⟨ao, cap, rfl, hnc, hcm⟩ := ha.shape
 obtain ⟨bo, bcap, rfl, hnc2, hcm2⟩ := hb.shape
 have HA := hid ha
 have HB := hid hb
 clear ha hb
 go_enter Try.func35, Try.ntmps35
 go_wp2_with fail
 refine (sameVers22_walk _ _ l m w HA.out HB.out).mono ?_
 rintro e w1 ⟨rfl, hg⟩
 go_wp2
 go_ret
 exact ⟨rfl, hg⟩
theorem sameSrcs_walk (a b : Value) (l m : List Src) (w : World) (ha : Sl w 2 a l.length (l.flatMap srccells)) (hb : Sl w 2 b m.length (m.flatMap srccells)) :
   Calls Try.prog 36 #[a, b] w fun e w' => e = .returned (.bool (decide (l = m))) ∧ w.grownBy w' none := by
 obtain ⟨ao, cap, rfl, hnc, hcm⟩ := ha.shape
 obtain ⟨bo, bcap, rfl, hnc2, hcm2⟩ := hb.shape
 have HA := hid ha
 have HB := hid hb
 clear ha hb
 go_enter Try.func36, Try.ntmps36
 go_wp2_with fail
 refine (sameSrcs22_walk _ _ l m w HA.out HB.out).mono ?_
 rintro e w1 ⟨rfl, hg⟩
 go_wp2
 go_ret
 exact ⟨rfl, hg⟩
end
end Go.Proofs.Ytkeiffccllfkpaa
/- Read at its types: structs. (merged by merge.py) -/
namespace Go.Proofs.Ytkeiffccllfkpaa
/-! ## RdTVal -/
section
open Go.RowKit
theorem ztyVal : TY Try.prog 67 [(Value.int .i64 0), (Value.int .i64 0), (Value.string ⟨#[]⟩)] (.agg #[Value.int .i64 0, Value.int .i64 0, Value.string ⟨#[]⟩]) := TY.agg Try.underlying67 rfl (by kernel_rfl) (by simp [Value.oneCell'])
theorem recVal_walk (a b c : Value) (w : World) : CallsD Try.prog 180 #[a, b, c] .returning w fun e u' w' => e = .returned (.tuple #[]) ∧ u' = .returning ∧ w' = w := by
 refine callsD_of_wpS Try.func180 rfl fun c₀ cs hu => ?_
 apply wpS_seq
 apply wpS_region
 simp [wpOpsS, go_sem, recoverD, hu, Try.ntmps180]
 refine wpS_cond (t := false) rfl ?_
 refine wpS_of_wp (wp_skip ?_)
 cases c₀
 simp_all [bodyPostS, results, Try.results180]
theorem readVal_walk {α : Type} (p : Parser α) (rep : Nat → World → Value → α → Prop) (v : Value) (xs : List Nat) (w : World) (hv : Sl w 1 v xs.length (bv xs)) (hl : xs.length ≤ 1099511627776) (hb : ∀ b ∈ xs, b < 256) (hvb : Lo v w.heap.size)
   (hF : ∀ (w : World) (R L : Nat) (s : St), RSt 201 L w R s → Calls Try.prog 119 #[.pointer (some ⟨R, 0, none⟩)] w (RdPost 201 L w R p s (rep w.heap.size)))
   (hTY : ∀ (L : Nat) (w : World) (v : Value) (x : α), rep L w v x → ∃ cs, TY Try.prog 67 cs v ∧ cs.length = 3)
   (hmono : ∀ (L : Nat) (w w' : World) (v : Value) (x : α), rep L w v x → w.heap.size ≤ w'.heap.size → (∀ k, L ≤ k → k < w.heap.size → w'.heap[k]? = w.heap[k]?) → ∀ L', L' ≤ L → rep L' w' v x) :
   Calls Try.prog 118 #[v, .func (.func 119) #[] #[]] w (ReadPost p xs (.agg #[Value.int .i64 0, Value.int .i64 0, Value.string ⟨#[]⟩]) rep w) := by
 obtain ⟨ao, cap, rfl, hnc, hcm⟩ := hv.shape
 have HF := hid hF
 have HTY := hid hTY
 have HMO := hid hmono
 clear hF hTY hmono
 have hmf : ∀ (fn : Fn) (first cap : Array Value) (w : World), (Instr.makeFunc fn first cap).run Try.prog w = .ok (.func fn first cap) w := fun _ _ _ _ => rfl
 go_enter_defers Try.func118, Try.ntmps118
 go_wp2_with fail
 generalize hW : (((w.alloc (Obj.cells #[Value.int .i64 0, Value.int .i64 0, Value.string ⟨#[]⟩] 67)).alloc (Obj.cells #[Value.slice none 0 0] 22)).alloc (Obj.cells #[Value.int IntKind.i64 0] 25)).alloc (Obj.cells #[Value.slice ao xs.length cap, Value.int IntKind.i64 0] 201) = W
 have hWg : w.grownBy W none := by rw [← hW]; exact grown_trans (grown_trans (grown_trans (World.grownBy_alloc _ _ _) (World.grownBy_alloc _ _ _)) (World.grownBy_alloc _ _ _)) (World.grownBy_alloc _ _ _)
 have h0 : W.heap[w.heap.size]? = some (.cells #[Value.int .i64 0, Value.int .i64 0, Value.string ⟨#[]⟩] 67 (0, 0)) := by rw [← hW, heap_past (by simp <;> omega), heap_past (by simp <;> omega), heap_past (by simp <;> omega), heap_at rfl]
 have h1 : W.heap[w.heap.size + 1]? = some (.cells #[.slice none 0 0] 22 (0, 0)) := by rw [← hW, heap_past (by simp <;> omega), heap_past (by simp <;> omega), heap_at (by simp <;> omega)]
 have h2 : W.heap[w.heap.size + 1 + 1]? = some (.cells #[.int .i64 0] 25 (0, 0)) := by rw [← hW, heap_past (by simp <;> omega), heap_at (by simp <;> omega)]
 have h3 : W.heap[w.heap.size + 1 + 1 + 1]? = some (.cells #[.slice ao xs.length cap, .int .i64 0] 201 (0, 0)) := by rw [← hW, heap_at (by simp <;> omega)]
 have hsz : W.heap.size = w.heap.size + 4 := by rw [← hW]; simp
 clear hW
 have hst : RSt 201 w.heap.size W (w.heap.size + 1 + 1 + 1) (.ok xs) := ⟨_, xs, ⟨rfl, h3⟩, hv.kept hWg (by cases h : (Value.slice ao xs.length cap).ownBlock <;> simp), ⟨hvb, by omega⟩, hb, hl⟩
 refine (HF.out _ _ _ _ hst).mono ?_
 rintro e w1 ⟨v1, x, s', rfl, hrep, hg1, hst1, hrel⟩
 obtain ⟨cs, hT, hcs⟩ := HTY.out _ _ _ _ hrep
 have k0 := row_of hg1 h0 (by simp <;> omega)
 have k1 := row_of hg1 h1 (by simp <;> omega)
 have k2 := row_of hg1 h2 (by simp <;> omega)
 have hsz1 := hg1.size
 clear h0 h1 h2 h3 hst
 have K0 := hid k0
 have K1 := hid k1
 have K2 := hid k2
 have HS := hid hst1
 obtain ⟨e1, hgz, hz0⟩ := hT.stores k0 (by rw [hcs]; rfl)
 have hlenz : (w1.setCells w.heap.size 0 cs).heap.size = w1.heap.size := setCells_size _ _ _ _
 have hz1 := row_of hgz K1.out (by simp)
 have hz2 := row_of hgz K2.out (by simp <;> omega)
 have hz3 : ∀ (k : Nat) (o : Obj), w1.heap[k]? = some o → k ≠ w.heap.size → (w1.setCells w.heap.size 0 cs).heap[k]? = some o := fun k o h hk => row_of hgz h (by simp <;> omega)
 generalize w1.setCells w.heap.size 0 cs = wz at *
 have E1 := hid e1
 have HT := hid hT
 have HR := hid hrep
 clear k0 k1 k2 hT hrep e1
 cases s' with
 | error er =>
   obtain ⟨v3, l3, ⟨he, he2, hrow⟩, _⟩ := hst1
   have z3 := hz3 _ _ hrow (by omega)
   obtain ⟨r0, r1, _, _⟩ := row2 z3
   have hne : ((er : Int) != 0) = true := by simp; omega
   have Z0 := hid hz0
   have Z1 := hid hz1
   have Z2 := hid hz2
   have Z3 := hid z3
   clear hrow hz0 hz1 hz2 hz3 z3
   go_wp2_with (refine wpList_store_ty rfl (.tmp 4) (.tmp 15) rfl rfl rfl E1.out ?_)
   refine read6 mixed true 67 _ _ _ _ 6 w.heap.size (w.heap.size + 1 + 1 + 1) w1.heap.size (.agg #[Value.int .i64 0, Value.int .i64 0, Value.string ⟨#[]⟩]) er [(Value.int .i64 0), (Value.int .i64 0), (Value.string ⟨#[]⟩)] _ _ (wz.alloc (Obj.cells #[Value.int .i64 0, Value.int .i64 0, Value.string ⟨#[]⟩] 67)) rfl rfl rfl rfl rfl rfl (fun _ => ⟨by omega, heap_at hlenz.symm⟩) ztyVal tyS tyE ⟨_, by simp [hcs], (heap_past (by have := hgz.size; omega)).trans Z0.out⟩ ⟨_, (heap_past (by have := hgz.size; omega)).trans Z1.out⟩ ⟨_, (heap_past (by have := hgz.size; omega)).trans Z2.out⟩ (row2 ((heap_past (by have := hgz.size; have := (Array.getElem?_eq_some_iff.1 Z3.out).1; omega)).trans Z3.out)).2.1 (by omega) (fun w => field1 w _) ?_
   intro a w2 hres hd hs hl q0 q1 q2
   go_wp2
   obtain ⟨tmps, ds⟩ := a
   simp only at hd hs hl
   subst hd
   refine leaves_cons (f := 180) (args := #[.pointer (some ⟨w.heap.size, 0, none⟩), .pointer (some ⟨w.heap.size + 1, 0, none⟩), .pointer (some ⟨w.heap.size + 1 + 1, 0, none⟩)]) (by simp) (by simp [go_sem]) ?_
   refine (recVal_walk _ _ _ _).mono ?_
   rintro e u' w'' ⟨rfl, rfl, rfl⟩
   have hrs := Res3.grown hWg hg1 (grown_trans hgz (World.grownBy_alloc wz (Obj.cells #[Value.int .i64 0, Value.int .i64 0, Value.string ⟨#[]⟩] 67) _)) hres (by omega) rfl rfl
   exact ⟨_, results3 rfl (hl 4 (by decide)) (hl 5 (by decide)) (hl 6 (by decide)) ztyVal (tyS none 0 0) (tyE er) q0 q1 q2, ReadPost.mkErr hrs hrel.err rfl he⟩
 | ok l' =>
   obtain ⟨v3, l3, ⟨rfl, hrow⟩, hsl, hvl, hlb, hll⟩ := hst1
   have z3 := hz3 _ _ hrow (by omega)
   obtain ⟨r0, r1, _, _⟩ := row2 z3
   have Z0 := hid hz0
   have Z1 := hid hz1
   have Z2 := hid hz2
   have Z3 := hid z3
   clear hrow hz0 hz1 hz2 hz3 z3
   go_wp2_with (refine wpList_store_ty rfl (.tmp 4) (.tmp 15) rfl rfl rfl E1.out ?_)
   refine read7 mixed 67 _ _ _ _ 165 7 w.heap.size (w.heap.size + 1 + 1 + 1) v1 v3 cs l' _ _ _ rfl rfl rfl rfl rfl HT.out tyS tyE Z0.out ⟨_, Z1.out⟩ ⟨_, Z2.out⟩ (row2 Z3.out).1 (by omega) (hsl.kept hgz (.inr (hvl.1.ne (Nat.le_refl _)))) hvl.1 (fun w => field0 w _) enterClone (fun w v hv => clone_walk v l' w hv hll) ?_
   intro a w2 hres hd hs hl q0 q1 q2
   go_wp2
   obtain ⟨tmps, ds⟩ := a
   simp only at hd hs hl
   subst hd
   refine leaves_cons (f := 180) (args := #[.pointer (some ⟨w.heap.size, 0, none⟩), .pointer (some ⟨w.heap.size + 1, 0, none⟩), .pointer (some ⟨w.heap.size + 1 + 1, 0, none⟩)]) (by simp) (by simp [go_sem]) ?_
   refine (recVal_walk _ _ _ _).mono ?_
   rintro e u' w'' ⟨rfl, rfl, rfl⟩
   have hrs := Res3.grown hWg hg1 hgz hres (by omega) rfl rfl
   obtain ⟨v', q1, qs, qk⟩ := q1
   obtain ⟨ao', cap', rfl, _, _⟩ := qs.shape
   have hrep' : rep w.heap.size w'' v1 x := HMO.out _ _ _ _ _ HR.out (by have := hgz.size; have := hres.size; omega) (fun k hk1 hk2 => (hres.block k (by have := hgz.size; omega) (by omega) (by omega) (by omega)).trans (hgz.block k hk2 (by simp <;> omega))) _ (by omega)
   exact ⟨_, results3 rfl (hl 4 (by decide)) (hl 5 (by decide)) (hl 6 (by decide)) HT.out (tyS _ _ _) (tyE 0) q0 q1 q2, ReadPost.mkOk hrs hrel.ok rfl hrep' qs fun k hk => by have := qk k hk; have := hgz.size; omega⟩
end
/-! ## RdTRec -/
section
open Go.RowKit
theorem ztyRec : TY Try.prog 95 [(Value.slice none 0 0), (Value.slice none 0 0), (Value.int .i64 0)] (.agg #[Value.slice none 0 0, Value.slice none 0 0, Value.int .i64 0]) := TY.agg Try.underlying95 rfl (by kernel_rfl) (by simp [Value.oneCell'])
theorem recRec_walk (a b c : Value) (w : World) : CallsD Try.prog 185 #[a, b, c] .returning w fun e u' w' => e = .returned (.tuple #[]) ∧ u' = .returning ∧ w' = w := by
 refine callsD_of_wpS Try.func185 rfl fun c₀ cs hu => ?_
 apply wpS_seq
 apply wpS_region
 simp [wpOpsS, go_sem, recoverD, hu, Try.ntmps185]
 refine wpS_cond (t := false) rfl ?_
 refine wpS_of_wp (wp_skip ?_)
 cases c₀
 simp_all [bodyPostS, results, Try.results185]
theorem readRec_walk {α : Type} (p : Parser α) (rep : Nat → World → Value → α → Prop) (v : Value) (xs : List Nat) (w : World) (hv : Sl w 1 v xs.length (bv xs)) (hl : xs.length ≤ 1099511627776) (hb : ∀ b ∈ xs, b < 256) (hvb : Lo v w.heap.size)
   (hF : ∀ (w : World) (R L : Nat) (s : St), RSt 201 L w R s → Calls Try.prog 134 #[.pointer (some ⟨R, 0, none⟩)] w (RdPost 201 L w R p s (rep w.heap.size)))
   (hTY : ∀ (L : Nat) (w : World) (v : Value) (x : α), rep L w v x → ∃ cs, TY Try.prog 95 cs v ∧ cs.length = 3)
   (hmono : ∀ (L : Nat) (w w' : World) (v : Value) (x : α), rep L w v x → w.heap.size ≤ w'.heap.size → (∀ k, L ≤ k → k < w.heap.size → w'.heap[k]? = w.heap[k]?) → ∀ L', L' ≤ L → rep L' w' v x) :
   Calls Try.prog 133 #[v, .func (.func 134) #[] #[]] w (ReadPost p xs (.agg #[Value.slice none 0 0, Value.slice none 0 0, Value.int .i64 0]) rep w) := by
 obtain ⟨ao, cap, rfl, hnc, hcm⟩ := hv.shape
 have HF := hid hF
 have HTY := hid hTY
 have HMO := hid hmono
 clear hF hTY hmono
 have hmf : ∀ (fn : Fn) (first cap : Array Value) (w : World), (Instr.makeFunc fn first cap).run Try.prog w = .ok (.func fn first cap) w := fun _ _ _ _ => rfl
 go_enter_defers Try.func133, Try.ntmps133
 go_wp2_with fail
 generalize hW : (((w.alloc (Obj.cells #[Value.slice none 0 0, Value.slice none 0 0, Value.int .i64 0] 95)).alloc (Obj.cells #[Value.slice none 0 0] 22)).alloc (Obj.cells #[Value.int IntKind.i64 0] 25)).alloc (Obj.cells #[Value.slice ao xs.length cap, Value.int IntKind.i64 0] 201) = W
 have hWg : w.grownBy W none := by rw [← hW]; exact grown_trans (grown_trans (grown_trans (World.grownBy_alloc _ _ _) (World.grownBy_alloc _ _ _)) (World.grownBy_alloc _ _ _)) (World.grownBy_alloc _ _ _)
 have h0 : W.heap[w.heap.size]? = some (.cells #[Value.slice none 0 0, Value.slice none 0 0, Value.int .i64 0] 95 (0, 0)) := by rw [← hW, heap_past (by simp <;> omega), heap_past (by simp <;> omega), heap_past (by simp <;> omega), heap_at rfl]
 have h1 : W.heap[w.heap.size + 1]? = some (.cells #[.slice none 0 0] 22 (0, 0)) := by rw [← hW, heap_past (by simp <;> omega), heap_past (by simp <;> omega), heap_at (by simp <;> omega)]
 have h2 : W.heap[w.heap.size + 1 + 1]? = some (.cells #[.int .i64 0] 25 (0, 0)) := by rw [← hW, heap_past (by simp <;> omega), heap_at (by simp <;> omega)]
 have h3 : W.heap[w.heap.size + 1 + 1 + 1]? = some (.cells #[.slice ao xs.length cap, .int .i64 0] 201 (0, 0)) := by rw [← hW, heap_at (by simp <;> omega)]
 have hsz : W.heap.size = w.heap.size + 4 := by rw [← hW]; simp
 clear hW
 have hst : RSt 201 w.heap.size W (w.heap.size + 1 + 1 + 1) (.ok xs) := ⟨_, xs, ⟨rfl, h3⟩, hv.kept hWg (by cases h : (Value.slice ao xs.length cap).ownBlock <;> simp), ⟨hvb, by omega⟩, hb, hl⟩
 refine (HF.out _ _ _ _ hst).mono ?_
 rintro e w1 ⟨v1, x, s', rfl, hrep, hg1, hst1, hrel⟩
 obtain ⟨cs, hT, hcs⟩ := HTY.out _ _ _ _ hrep
 have k0 := row_of hg1 h0 (by simp <;> omega)
 have k1 := row_of hg1 h1 (by simp <;> omega)
 have k2 := row_of hg1 h2 (by simp <;> omega)
 have hsz1 := hg1.size
 clear h0 h1 h2 h3 hst
 have K0 := hid k0
 have K1 := hid k1
 have K2 := hid k2
 have HS := hid hst1
 obtain ⟨e1, hgz, hz0⟩ := hT.stores k0 (by rw [hcs]; rfl)
 have hlenz : (w1.setCells w.heap.size 0 cs).heap.size = w1.heap.size := setCells_size _ _ _ _
 have hz1 := row_of hgz K1.out (by simp)
 have hz2 := row_of hgz K2.out (by simp <;> omega)
 have hz3 : ∀ (k : Nat) (o : Obj), w1.heap[k]? = some o → k ≠ w.heap.size → (w1.setCells w.heap.size 0 cs).heap[k]? = some o := fun k o h hk => row_of hgz h (by simp <;> omega)
 generalize w1.setCells w.heap.size 0 cs = wz at *
 have E1 := hid e1
 have HT := hid hT
 have HR := hid hrep
 clear k0 k1 k2 hT hrep e1
 cases s' with
 | error er =>
   obtain ⟨v3, l3, ⟨he, he2, hrow⟩, _⟩ := hst1
   have z3 := hz3 _ _ hrow (by omega)
   obtain ⟨r0, r1, _, _⟩ := row2 z3
   have hne : ((er : Int) != 0) = true := by simp; omega
   have Z0 := hid hz0
   have Z1 := hid hz1
   have Z2 := hid hz2
   have Z3 := hid z3
   clear hrow hz0 hz1 hz2 hz3 z3
   go_wp2_with (refine wpList_store_ty rfl (.tmp 4) (.tmp 15) rfl rfl rfl E1.out ?_)
   refine read6 mixed true 95 _ _ _ _ 6 w.heap.size (w.heap.size + 1 + 1 + 1) w1.heap.size (.agg #[Value.slice none 0 0, Value.slice none 0 0, Value.int .i64 0]) er [(Value.slice none 0 0), (Value.slice none 0 0), (Value.int .i64 0)] _ _ (wz.alloc (Obj.cells #[Value.slice none 0 0, Value.slice none 0 0, Value.int .i64 0] 95)) rfl rfl rfl rfl rfl rfl (fun _ => ⟨by omega, heap_at hlenz.symm⟩) ztyRec tyS tyE ⟨_, by simp [hcs], (heap_past (by have := hgz.size; omega)).trans Z0.out⟩ ⟨_, (heap_past (by have := hgz.size; omega)).trans Z1.out⟩ ⟨_, (heap_past (by have := hgz.size; omega)).trans Z2.out⟩ (row2 ((heap_past (by have := hgz.size; have := (Array.getElem?_eq_some_iff.1 Z3.out).1; omega)).trans Z3.out)).2.1 (by omega) (fun w => field1 w _) ?_
   intro a w2 hres hd hs hl q0 q1 q2
   go_wp2
   obtain ⟨tmps, ds⟩ := a
   simp only at hd hs hl
   subst hd
   refine leaves_cons (f := 185) (args := #[.pointer (some ⟨w.heap.size, 0, none⟩), .pointer (some ⟨w.heap.size + 1, 0, none⟩), .pointer (some ⟨w.heap.size + 1 + 1, 0, none⟩)]) (by simp) (by simp [go_sem]) ?_
   refine (recRec_walk _ _ _ _).mono ?_
   rintro e u' w'' ⟨rfl, rfl, rfl⟩
   have hrs := Res3.grown hWg hg1 (grown_trans hgz (World.grownBy_alloc wz (Obj.cells #[Value.slice none 0 0, Value.slice none 0 0, Value.int .i64 0] 95) _)) hres (by omega) rfl rfl
   exact ⟨_, results3 rfl (hl 4 (by decide)) (hl 5 (by decide)) (hl 6 (by decide)) ztyRec (tyS none 0 0) (tyE er) q0 q1 q2, ReadPost.mkErr hrs hrel.err rfl he⟩
 | ok l' =>
   obtain ⟨v3, l3, ⟨rfl, hrow⟩, hsl, hvl, hlb, hll⟩ := hst1
   have z3 := hz3 _ _ hrow (by omega)
   obtain ⟨r0, r1, _, _⟩ := row2 z3
   have Z0 := hid hz0
   have Z1 := hid hz1
   have Z2 := hid hz2
   have Z3 := hid z3
   clear hrow hz0 hz1 hz2 hz3 z3
   go_wp2_with (refine wpList_store_ty rfl (.tmp 4) (.tmp 15) rfl rfl rfl E1.out ?_)
   refine read7 mixed 95 _ _ _ _ 165 7 w.heap.size (w.heap.size + 1 + 1 + 1) v1 v3 cs l' _ _ _ rfl rfl rfl rfl rfl HT.out tyS tyE Z0.out ⟨_, Z1.out⟩ ⟨_, Z2.out⟩ (row2 Z3.out).1 (by omega) (hsl.kept hgz (.inr (hvl.1.ne (Nat.le_refl _)))) hvl.1 (fun w => field0 w _) enterClone (fun w v hv => clone_walk v l' w hv hll) ?_
   intro a w2 hres hd hs hl q0 q1 q2
   go_wp2
   obtain ⟨tmps, ds⟩ := a
   simp only at hd hs hl
   subst hd
   refine leaves_cons (f := 185) (args := #[.pointer (some ⟨w.heap.size, 0, none⟩), .pointer (some ⟨w.heap.size + 1, 0, none⟩), .pointer (some ⟨w.heap.size + 1 + 1, 0, none⟩)]) (by simp) (by simp [go_sem]) ?_
   refine (recRec_walk _ _ _ _).mono ?_
   rintro e u' w'' ⟨rfl, rfl, rfl⟩
   have hrs := Res3.grown hWg hg1 hgz hres (by omega) rfl rfl
   obtain ⟨v', q1, qs, qk⟩ := q1
   obtain ⟨ao', cap', rfl, _, _⟩ := qs.shape
   have hrep' : rep w.heap.size w'' v1 x := HMO.out _ _ _ _ _ HR.out (by have := hgz.size; have := hres.size; omega) (fun k hk1 hk2 => (hres.block k (by have := hgz.size; omega) (by omega) (by omega) (by omega)).trans (hgz.block k hk2 (by simp <;> omega))) _ (by omega)
   exact ⟨_, results3 rfl (hl 4 (by decide)) (hl 5 (by decide)) (hl 6 (by decide)) HT.out (tyS _ _ _) (tyE 0) q0 q1 q2, ReadPost.mkOk hrs hrel.ok rfl hrep' qs fun k hk => by have := qk k hk; have := hgz.size; omega⟩
end
/-! ## RdTCh -/
section
open Go.RowKit
theorem ztyCh : TY Try.prog 86 [(Value.int .i64 0), (Value.int .i64 0), (Value.int .i64 0), (Value.int .i64 0), (Value.slice none 0 0), (Value.int .i64 0), (Value.int .i64 0), (Value.string ⟨#[]⟩), (Value.int .i64 0), (Value.int .i64 0), (Value.int .i64 0), (Value.string ⟨#[]⟩)] (.agg #[Value.int .i64 0, Value.int .i64 0, Value.int .i64 0, Value.int .i64 0, Value.slice none 0 0, Value.int .i64 0, Value.int .i64 0, Value.string ⟨#[]⟩, Value.int .i64 0, Value.int .i64 0, Value.int .i64 0, Value.string ⟨#[]⟩]) := TY.agg Try.underlying86 rfl (by kernel_rfl) (by simp [Value.oneCell'])
theorem recCh_walk (a b c : Value) (w : World) : CallsD Try.prog 184 #[a, b, c] .returning w fun e u' w' => e = .returned (.tuple #[]) ∧ u' = .returning ∧ w' = w := by
 refine callsD_of_wpS Try.func184 rfl fun c₀ cs hu => ?_
 apply wpS_seq
 apply wpS_region
 simp [wpOpsS, go_sem, recoverD, hu, Try.ntmps184]
 refine wpS_cond (t := false) rfl ?_
 refine wpS_of_wp (wp_skip ?_)
 cases c₀
 simp_all [bodyPostS, results, Try.results184]
theorem readCh_walk {α : Type} (p : Parser α) (rep : Nat → World → Value → α → Prop) (v : Value) (xs : List Nat) (w : World) (hv : Sl w 1 v xs.length (bv xs)) (hl : xs.length ≤ 1099511627776) (hb : ∀ b ∈ xs, b < 256) (hvb : Lo v w.heap.size)
   (hF : ∀ (w : World) (R L : Nat) (s : St), RSt 201 L w R s → Calls Try.prog 130 #[.pointer (some ⟨R, 0, none⟩)] w (RdPost 201 L w R p s (rep w.heap.size)))
   (hTY : ∀ (L : Nat) (w : World) (v : Value) (x : α), rep L w v x → ∃ cs, TY Try.prog 86 cs v ∧ cs.length = 12)
   (hmono : ∀ (L : Nat) (w w' : World) (v : Value) (x : α), rep L w v x → w.heap.size ≤ w'.heap.size → (∀ k, L ≤ k → k < w.heap.size → w'.heap[k]? = w.heap[k]?) → ∀ L', L' ≤ L → rep L' w' v x) :
   Calls Try.prog 129 #[v, .func (.func 130) #[] #[]] w (ReadPost p xs (.agg #[Value.int .i64 0, Value.int .i64 0, Value.int .i64 0, Value.int .i64 0, Value.slice none 0 0, Value.int .i64 0, Value.int .i64 0, Value.string ⟨#[]⟩, Value.int .i64 0, Value.int .i64 0, Value.int .i64 0, Value.string ⟨#[]⟩]) rep w) := by
 obtain ⟨ao, cap, rfl, hnc, hcm⟩ := hv.shape
 have HF := hid hF
 have HTY := hid hTY
 have HMO := hid hmono
 clear hF hTY hmono
 have hmf : ∀ (fn : Fn) (first cap : Array Value) (w : World), (Instr.makeFunc fn first cap).run Try.prog w = .ok (.func fn first cap) w := fun _ _ _ _ => rfl
 go_enter_defers Try.func129, Try.ntmps129
 go_wp2_with fail
 generalize hW : (((w.alloc (Obj.cells #[Value.int .i64 0, Value.int .i64 0, Value.int .i64 0, Value.int .i64 0, Value.slice none 0 0, Value.int .i64 0, Value.int .i64 0, Value.string ⟨#[]⟩, Value.int .i64 0, Value.int .i64 0, Value.int .i64 0, Value.string ⟨#[]⟩] 86)).alloc (Obj.cells #[Value.slice none 0 0] 22)).alloc (Obj.cells #[Value.int IntKind.i64 0] 25)).alloc (Obj.cells #[Value.slice ao xs.length cap, Value.int IntKind.i64 0] 201) = W
 have hWg : w.grownBy W none := by rw [← hW]; exact grown_trans (grown_trans (grown_trans (World.grownBy_alloc _ _ _) (World.grownBy_alloc _ _ _)) (World.grownBy_alloc _ _ _)) (World.grownBy_alloc _ _ _)
 have h0 : W.heap[w.heap.size]? = some (.cells #[Value.int .i64 0, Value.int .i64 0, Value.int .i64 0, Value.int .i64 0, Value.slice none 0 0, Value.int .i64 0, Value.int .i64 0, Value.string ⟨#[]⟩, Value.int .i64 0, Value.int .i64 0, Value.int .i64 0, Value.string ⟨#[]⟩] 86 (0, 0)) := by rw [← hW, heap_past (by simp <;> omega), heap_past (by simp <;> omega), heap_past (by simp <;> omega), heap_at rfl]
 have h1 : W.heap[w.heap.size + 1]? = some (.cells #[.slice none 0 0] 22 (0, 0)) := by rw [← hW, heap_past (by simp <;> omega), heap_past (by simp <;> omega), heap_at (by simp <;> omega)]
 have h2 : W.heap[w.heap.size + 1 + 1]? = some (.cells #[.int .i64 0] 25 (0, 0)) := by rw [← hW, heap_past (by simp <;> omega), heap_at (by simp <;> omega)]
 have h3 : W.heap[w.heap.size + 1 + 1 + 1]? = some (.cells #[.slice ao xs.length cap, .int .i64 0] 201 (0, 0)) := by rw [← hW, heap_at (by simp <;> omega)]
 have hsz : W.heap.size = w.heap.size + 4 := by rw [← hW]; simp
 clear hW
 have hst : RSt 201 w.heap.size W (w.heap.size + 1 + 1 + 1) (.ok xs) := ⟨_, xs, ⟨rfl, h3⟩, hv.kept hWg (by cases h : (Value.slice ao xs.length cap).ownBlock <;> simp), ⟨hvb, by omega⟩, hb, hl⟩
 refine (HF.out _ _ _ _ hst).mono ?_
 rintro e w1 ⟨v1, x, s', rfl, hrep, hg1, hst1, hrel⟩
 obtain ⟨cs, hT, hcs⟩ := HTY.out _ _ _ _ hrep
 have k0 := row_of hg1 h0 (by simp <;> omega)
 have k1 := row_of hg1 h1 (by simp <;> omega)
 have k2 := row_of hg1 h2 (by simp <;> omega)
 have hsz1 := hg1.size
 clear h0 h1 h2 h3 hst
 have K0 := hid k0
 have K1 := hid k1
 have K2 := hid k2
 have HS := hid hst1
 obtain ⟨e1, hgz, hz0⟩ := hT.stores k0 (by rw [hcs]; rfl)
 have hlenz : (w1.setCells w.heap.size 0 cs).heap.size = w1.heap.size := setCells_size _ _ _ _
 have hz1 := row_of hgz K1.out (by simp)
 have hz2 := row_of hgz K2.out (by simp <;> omega)
 have hz3 : ∀ (k : Nat) (o : Obj), w1.heap[k]? = some o → k ≠ w.heap.size → (w1.setCells w.heap.size 0 cs).heap[k]? = some o := fun k o h hk => row_of hgz h (by simp <;> omega)
 generalize w1.setCells w.heap.size 0 cs = wz at *
 have E1 := hid e1
 have HT := hid hT
 have HR := hid hrep
 clear k0 k1 k2 hT hrep e1
 cases s' with
 | error er =>
   obtain ⟨v3, l3, ⟨he, he2, hrow⟩, _⟩ := hst1
   have z3 := hz3 _ _ hrow (by omega)
   obtain ⟨r0, r1, _, _⟩ := row2 z3
   have hne : ((er : Int) != 0) = true := by simp; omega
   have Z0 := hid hz0
   have Z1 := hid hz1
   have Z2 := hid hz2
   have Z3 := hid z3
   clear hrow hz0 hz1 hz2 hz3 z3
   go_wp2_with (refine wpList_store_ty rfl (.tmp 4) (.tmp 15) rfl rfl rfl E1.out ?_)
   refine read6 mixed true 86 _ _ _ _ 6 w.heap.size (w.heap.size + 1 + 1 + 1) w1.heap.size (.agg #[Value.int .i64 0, Value.int .i64 0, Value.int .i64 0, Value.int .i64 0, Value.slice none 0 0, Value.int .i64 0, Value.int .i64 0, Value.string ⟨#[]⟩, Value.int .i64 0, Value.int .i64 0, Value.int .i64 0, Value.string ⟨#[]⟩]) er [(Value.int .i64 0), (Value.int .i64 0), (Value.int .i64 0), (Value.int .i64 0), (Value.slice none 0 0), (Value.int .i64 0), (Value.int .i64 0), (Value.string ⟨#[]⟩), (Value.int .i64 0), (Value.int .i64 0), (Value.int .i64 0), (Value.string ⟨#[]⟩)] _ _ (wz.alloc (Obj.cells #[Value.int .i64 0, Value.int .i64 0, Value.int .i64 0, Value.int .i64 0, Value.slice none 0 0, Value.int .i64 0, Value.int .i64 0, Value.string ⟨#[]⟩, Value.int .i64 0, Value.int .i64 0, Value.int .i64 0, Value.string ⟨#[]⟩] 86)) rfl rfl rfl rfl rfl rfl (fun _ => ⟨by omega, heap_at hlenz.symm⟩) ztyCh tyS tyE ⟨_, by simp [hcs], (heap_past (by have := hgz.size; omega)).trans Z0.out⟩ ⟨_, (heap_past (by have := hgz.size; omega)).trans Z1.out⟩ ⟨_, (heap_past (by have := hgz.size; omega)).trans Z2.out⟩ (row2 ((heap_past (by have := hgz.size; have := (Array.getElem?_eq_some_iff.1 Z3.out).1; omega)).trans Z3.out)).2.1 (by omega) (fun w => field1 w _) ?_
   intro a w2 hres hd hs hl q0 q1 q2
   go_wp2
   obtain ⟨tmps, ds⟩ := a
   simp only at hd hs hl
   subst hd
   refine leaves_cons (f := 184) (args := #[.pointer (some ⟨w.heap.size, 0, none⟩), .pointer (some ⟨w.heap.size + 1, 0, none⟩), .pointer (some ⟨w.heap.size + 1 + 1, 0, none⟩)]) (by simp) (by simp [go_sem]) ?_
   refine (recCh_walk _ _ _ _).mono ?_
   rintro e u' w'' ⟨rfl, rfl, rfl⟩
   have hrs := Res3.grown hWg hg1 (grown_trans hgz (World.grownBy_alloc wz (Obj.cells #[Value.int .i64 0, Value.int .i64 0, Value.int .i64 0, Value.int .i64 0, Value.slice none 0 0, Value.int .i64 0, Value.int .i64 0, Value.string ⟨#[]⟩, Value.int .i64 0, Value.int .i64 0, Value.int .i64 0, Value.string ⟨#[]⟩] 86) _)) hres (by omega) rfl rfl
   exact ⟨_, results3 rfl (hl 4 (by decide)) (hl 5 (by decide)) (hl 6 (by decide)) ztyCh (tyS none 0 0) (tyE er) q0 q1 q2, ReadPost.mkErr hrs hrel.err rfl he⟩
 | ok l' =>
   obtain ⟨v3, l3, ⟨rfl, hrow⟩, hsl, hvl, hlb, hll⟩ := hst1
   have z3 := hz3 _ _ hrow (by omega)
   obtain ⟨r0, r1, _, _⟩ := row2 z3
   have Z0 := hid hz0
   have Z1 := hid hz1
   have Z2 := hid hz2
   have Z3 := hid z3
   clear hrow hz0 hz1 hz2 hz3 z3
   go_wp2_with (refine wpList_store_ty rfl (.tmp 4) (.tmp 15) rfl rfl rfl E1.out ?_)
   refine read7 mixed 86 _ _ _ _ 165 7 w.heap.size (w.heap.size + 1 + 1 + 1) v1 v3 cs l' _ _ _ rfl rfl rfl rfl rfl HT.out tyS tyE Z0.out ⟨_, Z1.out⟩ ⟨_, Z2.out⟩ (row2 Z3.out).1 (by omega) (hsl.kept hgz (.inr (hvl.1.ne (Nat.le_refl _)))) hvl.1 (fun w => field0 w _) enterClone (fun w v hv => clone_walk v l' w hv hll) ?_
   intro a w2 hres hd hs hl q0 q1 q2
   go_wp2
   obtain ⟨tmps, ds⟩ := a
   simp only at hd hs hl
   subst hd
   refine leaves_cons (f := 184) (args := #[.pointer (some ⟨w.heap.size, 0, none⟩), .pointer (some ⟨w.heap.size + 1, 0, none⟩), .pointer (some ⟨w.heap.size + 1 + 1, 0, none⟩)]) (by simp) (by simp [go_sem]) ?_
   refine (recCh_walk _ _ _ _).mono ?_
   rintro e u' w'' ⟨rfl, rfl, rfl⟩
   have hrs := Res3.grown hWg hg1 hgz hres (by omega) rfl rfl
   obtain ⟨v', q1, qs, qk⟩ := q1
   obtain ⟨ao', cap', rfl, _, _⟩ := qs.shape
   have hrep' : rep w.heap.size w'' v1 x := HMO.out _ _ _ _ _ HR.out (by have := hgz.size; have := hres.size; omega) (fun k hk1 hk2 => (hres.block k (by have := hgz.size; omega) (by omega) (by omega) (by omega)).trans (hgz.block k hk2 (by simp <;> omega))) _ (by omega)
   exact ⟨_, results3 rfl (hl 4 (by decide)) (hl 5 (by decide)) (hl 6 (by decide)) HT.out (tyS _ _ _) (tyE 0) q0 q1 q2, ReadPost.mkOk hrs hrel.ok rfl hrep' qs fun k hk => by have := qk k hk; have := hgz.size; omega⟩
end
/-! ## RdTIdf -/
/-! ## RdTLnk -/
/-! ## RdTHld -/
section
open Go.RowKit
theorem ztyHld : TY Try.prog 109 [(Value.int .i64 0), (Value.int .i64 0), (Value.string ⟨#[]⟩), (Value.int .i64 0), (Value.int .i64 0), (Value.string ⟨#[]⟩), (Value.int .i64 0), (Value.int .i64 0), (Value.int .i64 0)] (.agg #[Value.int .i64 0, Value.int .i64 0, Value.string ⟨#[]⟩, Value.int .i64 0, Value.int .i64 0, Value.string ⟨#[]⟩, Value.int .i64 0, Value.int .i64 0, Value.int .i64 0]) := TY.agg Try.underlying109 rfl (by kernel_rfl) (by simp [Value.oneCell'])
theorem recHld_walk (a b c : Value) (w : World) : CallsD Try.prog 190 #[a, b, c] .returning w fun e u' w' => e = .returned (.tuple #[]) ∧ u' = .returning ∧ w' = w := by
 refine callsD_of_wpS Try.func190 rfl fun c₀ cs hu => ?_
 apply wpS_seq
 apply wpS_region
 simp [wpOpsS, go_sem, recoverD, hu, Try.ntmps190]
 refine wpS_cond (t := false) rfl ?_
 refine wpS_of_wp (wp_skip ?_)
 cases c₀
 simp_all [bodyPostS, results, Try.results190]
theorem readHld_walk {α : Type} (p : Parser α) (rep : Nat → World → Value → α → Prop) (v : Value) (xs : List Nat) (w : World) (hv : Sl w 1 v xs.length (bv xs)) (hl : xs.length ≤ 1099511627776) (hb : ∀ b ∈ xs, b < 256) (hvb : Lo v w.heap.size)
   (hF : ∀ (w : World) (R L : Nat) (s : St), RSt 201 L w R s → Calls Try.prog 151 #[.pointer (some ⟨R, 0, none⟩)] w (RdPost 201 L w R p s (rep w.heap.size)))
   (hTY : ∀ (L : Nat) (w : World) (v : Value) (x : α), rep L w v x → ∃ cs, TY Try.prog 109 cs v ∧ cs.length = 9)
   (hmono : ∀ (L : Nat) (w w' : World) (v : Value) (x : α), rep L w v x → w.heap.size ≤ w'.heap.size → (∀ k, L ≤ k → k < w.heap.size → w'.heap[k]? = w.heap[k]?) → ∀ L', L' ≤ L → rep L' w' v x) :
   Calls Try.prog 150 #[v, .func (.func 151) #[] #[]] w (ReadPost p xs (.agg #[Value.int .i64 0, Value.int .i64 0, Value.string ⟨#[]⟩, Value.int .i64 0, Value.int .i64 0, Value.string ⟨#[]⟩, Value.int .i64 0, Value.int .i64 0, Value.int .i64 0]) rep w) := by
 obtain ⟨ao, cap, rfl, hnc, hcm⟩ := hv.shape
 have HF := hid hF
 have HTY := hid hTY
 have HMO := hid hmono
 clear hF hTY hmono
 have hmf : ∀ (fn : Fn) (first cap : Array Value) (w : World), (Instr.makeFunc fn first cap).run Try.prog w = .ok (.func fn first cap) w := fun _ _ _ _ => rfl
 go_enter_defers Try.func150, Try.ntmps150
 go_wp2_with fail
 generalize hW : (((w.alloc (Obj.cells #[Value.int .i64 0, Value.int .i64 0, Value.string ⟨#[]⟩, Value.int .i64 0, Value.int .i64 0, Value.string ⟨#[]⟩, Value.int .i64 0, Value.int .i64 0, Value.int .i64 0] 109)).alloc (Obj.cells #[Value.slice none 0 0] 22)).alloc (Obj.cells #[Value.int IntKind.i64 0] 25)).alloc (Obj.cells #[Value.slice ao xs.length cap, Value.int IntKind.i64 0] 201) = W
 have hWg : w.grownBy W none := by rw [← hW]; exact grown_trans (grown_trans (grown_trans (World.grownBy_alloc _ _ _) (World.grownBy_alloc _ _ _)) (World.grownBy_alloc _ _ _)) (World.grownBy_alloc _ _ _)
 have h0 : W.heap[w.heap.size]? = some (.cells #[Value.int .i64 0, Value.int .i64 0, Value.string ⟨#[]⟩, Value.int .i64 0, Value.int .i64 0, Value.string ⟨#[]⟩, Value.int .i64 0, Value.int .i64 0, Value.int .i64 0] 109 (0, 0)) := by rw [← hW, heap_past (by simp <;> omega), heap_past (by simp <;> omega), heap_past (by simp <;> omega), heap_at rfl]
 have h1 : W.heap[w.heap.size + 1]? = some (.cells #[.slice none 0 0] 22 (0, 0)) := by rw [← hW, heap_past (by simp <;> omega), heap_past (by simp <;> omega), heap_at (by simp <;> omega)]
 have h2 : W.heap[w.heap.size + 1 + 1]? = some (.cells #[.int .i64 0] 25 (0, 0)) := by rw [← hW, heap_past (by simp <;> omega), heap_at (by simp <;> omega)]
 have h3 : W.heap[w.heap.size + 1 + 1 + 1]? = some (.cells #[.slice ao xs.length cap, .int .i64 0] 201 (0, 0)) := by rw [← hW, heap_at (by simp <;> omega)]
 have hsz : W.heap.size = w.heap.size + 4 := by rw [← hW]; simp
 clear hW
 have hst : RSt 201 w.heap.size W (w.heap.size + 1 + 1 + 1) (.ok xs) := ⟨_, xs, ⟨rfl, h3⟩, hv.kept hWg (by cases h : (Value.slice ao xs.length cap).ownBlock <;> simp), ⟨hvb, by omega⟩, hb, hl⟩
 refine (HF.out _ _ _ _ hst).mono ?_
 rintro e w1 ⟨v1, x, s', rfl, hrep, hg1, hst1, hrel⟩
 obtain ⟨cs, hT, hcs⟩ := HTY.out _ _ _ _ hrep
 have k0 := row_of hg1 h0 (by simp <;> omega)
 have k1 := row_of hg1 h1 (by simp <;> omega)
 have k2 := row_of hg1 h2 (by simp <;> omega)
 have hsz1 := hg1.size
 clear h0 h1 h2 h3 hst
 have K0 := hid k0
 have K1 := hid k1
 have K2 := hid k2
 have HS := hid hst1
 obtain ⟨e1, hgz, hz0⟩ := hT.stores k0 (by rw [hcs]; rfl)
 have hlenz : (w1.setCells w.heap.size 0 cs).heap.size = w1.heap.size := setCells_size _ _ _ _
 have hz1 := row_of hgz K1.out (by simp)
 have hz2 := row_of hgz K2.out (by simp <;> omega)
 have hz3 : ∀ (k : Nat) (o : Obj), w1.heap[k]? = some o → k ≠ w.heap.size → (w1.setCells w.heap.size 0 cs).heap[k]? = some o := fun k o h hk => row_of hgz h (by simp <;> omega)
 generalize w1.setCells w.heap.size 0 cs = wz at *
 have E1 := hid e1
 have HT := hid hT
 have HR := hid hrep
 clear k0 k1 k2 hT hrep e1
 cases s' with
 | error er =>
   obtain ⟨v3, l3, ⟨he, he2, hrow⟩, _⟩ := hst1
   have z3 := hz3 _ _ hrow (by omega)
   obtain ⟨r0, r1, _, _⟩ := row2 z3
   have hne : ((er : Int) != 0) = true := by simp; omega
   have Z0 := hid hz0
   have Z1 := hid hz1
   have Z2 := hid hz2
   have Z3 := hid z3
   clear hrow hz0 hz1 hz2 hz3 z3
   go_wp2_with (refine wpList_store_ty rfl (.tmp 4) (.tmp 15) rfl rfl rfl E1.out ?_)
   refine read6 mixed true 109 _ _ _ _ 6 w.heap.size (w.heap.size + 1 + 1 + 1) w1.heap.size (.agg #[Value.int .i64 0, Value.int .i64 0, Value.string ⟨#[]⟩, Value.int .i64 0, Value.int .i64 0, Value.string ⟨#[]⟩, Value.int .i64 0, Value.int .i64 0, Value.int .i64 0]) er [(Value.int .i64 0), (Value.int .i64 0), (Value.string ⟨#[]⟩), (Value.int .i64 0), (Value.int .i64 0), (Value.string ⟨#[]⟩), (Value.int .i64 0), (Value.int .i64 0), (Value.int .i64 0)] _ _ (wz.alloc (Obj.cells #[Value.int .i64 0, Value.int .i64 0, Value.string ⟨#[]⟩, Value.int .i64 0, Value.int .i64 0, Value.string ⟨#[]⟩, Value.int .i64 0, Value.int .i64 0, Value.int .i64 0] 109)) rfl rfl rfl rfl rfl rfl (fun _ => ⟨by omega, heap_at hlenz.symm⟩) ztyHld tyS tyE ⟨_, by simp [hcs], (heap_past (by have := hgz.size; omega)).trans Z0.out⟩ ⟨_, (heap_past (by have := hgz.size; omega)).trans Z1.out⟩ ⟨_, (heap_past (by have := hgz.size; omega)).trans Z2.out⟩ (row2 ((heap_past (by have := hgz.size; have := (Array.getElem?_eq_some_iff.1 Z3.out).1; omega)).trans Z3.out)).2.1 (by omega) (fun w => field1 w _) ?_
   intro a w2 hres hd hs hl q0 q1 q2
   go_wp2
   obtain ⟨tmps, ds⟩ := a
   simp only at hd hs hl
   subst hd
   refine leaves_cons (f := 190) (args := #[.pointer (some ⟨w.heap.size, 0, none⟩), .pointer (some ⟨w.heap.size + 1, 0, none⟩), .pointer (some ⟨w.heap.size + 1 + 1, 0, none⟩)]) (by simp) (by simp [go_sem]) ?_
   refine (recHld_walk _ _ _ _).mono ?_
   rintro e u' w'' ⟨rfl, rfl, rfl⟩
   have hrs := Res3.grown hWg hg1 (grown_trans hgz (World.grownBy_alloc wz (Obj.cells #[Value.int .i64 0, Value.int .i64 0, Value.string ⟨#[]⟩, Value.int .i64 0, Value.int .i64 0, Value.string ⟨#[]⟩, Value.int .i64 0, Value.int .i64 0, Value.int .i64 0] 109) _)) hres (by omega) rfl rfl
   exact ⟨_, results3 rfl (hl 4 (by decide)) (hl 5 (by decide)) (hl 6 (by decide)) ztyHld (tyS none 0 0) (tyE er) q0 q1 q2, ReadPost.mkErr hrs hrel.err rfl he⟩
 | ok l' =>
   obtain ⟨v3, l3, ⟨rfl, hrow⟩, hsl, hvl, hlb, hll⟩ := hst1
   have z3 := hz3 _ _ hrow (by omega)
   obtain ⟨r0, r1, _, _⟩ := row2 z3
   have Z0 := hid hz0
   have Z1 := hid hz1
   have Z2 := hid hz2
   have Z3 := hid z3
   clear hrow hz0 hz1 hz2 hz3 z3
   go_wp2_with (refine wpList_store_ty rfl (.tmp 4) (.tmp 15) rfl rfl rfl E1.out ?_)
   refine read7 mixed 109 _ _ _ _ 165 7 w.heap.size (w.heap.size + 1 + 1 + 1) v1 v3 cs l' _ _ _ rfl rfl rfl rfl rfl HT.out tyS tyE Z0.out ⟨_, Z1.out⟩ ⟨_, Z2.out⟩ (row2 Z3.out).1 (by omega) (hsl.kept hgz (.inr (hvl.1.ne (Nat.le_refl _)))) hvl.1 (fun w => field0 w _) enterClone (fun w v hv => clone_walk v l' w hv hll) ?_
   intro a w2 hres hd hs hl q0 q1 q2
   go_wp2
   obtain ⟨tmps, ds⟩ := a
   simp only at hd hs hl
   subst hd
   refine leaves_cons (f := 190) (args := #[.pointer (some ⟨w.heap.size, 0, none⟩), .pointer (some ⟨w.heap.size + 1, 0, none⟩), .pointer (some ⟨w.heap.size + 1 + 1, 0, none⟩)]) (by simp) (by simp [go_sem]) ?_
   refine (recHld_walk _ _ _ _).mono ?_
   rintro e u' w'' ⟨rfl, rfl, rfl⟩
   have hrs := Res3.grown hWg hg1 hgz hres (by omega) rfl rfl
   obtain ⟨v', q1, qs, qk⟩ := q1
   obtain ⟨ao', cap', rfl, _, _⟩ := qs.shape
   have hrep' : rep w.heap.size w'' v1 x := HMO.out _ _ _ _ _ HR.out (by have := hgz.size; have := hres.size; omega) (fun k hk1 hk2 => (hres.block k (by have := hgz.size; omega) (by omega) (by omega) (by omega)).trans (hgz.block k hk2 (by simp <;> omega))) _ (by omega)
   exact ⟨_, results3 rfl (hl 4 (by decide)) (hl 5 (by decide)) (hl 6 (by decide)) HT.out (tyS _ _ _) (tyE 0) q0 q1 q2, ReadPost.mkOk hrs hrel.ok rfl hrep' qs fun k hk => by have := qk k hk; have := hgz.size; omega⟩
end
/-! ## RdTReq -/
end Go.Proofs.Ytkeiffccllfkpaa
