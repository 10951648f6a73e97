import Derived.Test.YtkeiffccllfkpaaRdRY
import Derived.Test.YtkeiffccllfkpaaRdRS
set_option linter.unusedSimpArgs false
set_option linter.unusedVariables false
set_option maxRecDepth 100000
set_option maxHeartbeats 2000000
/- Change, Record, Digest of the reference's reader. (printed by gen_reflz.py) -/
namespace Go.Proofs.Ytkeiffccllfkpaa
open Go.RowKit
set_option linter.unusedSimpArgs false
set_option linter.unusedVariables false
theorem rChange_read {L : Nat} (R : Nat) (s : St) (w : World) (h : RSt 33 L w R s) :
   Calls Try.prog 80 #[.pointer (some ⟨R, 0, none⟩)] w (RdPost 33 L w R pCh s (repCh w.heap.size)) := by
 have hR := h.lt
 have HS0 := hid (h.kept (World.grownBy_alloc w (.cells [Value.int .i64 0, Value.int .i64 0, Value.int .i64 0, Value.int .i64 0, Value.slice none 0 0, Value.int .i64 0, Value.int .i64 0, Value.string ⟨#[]⟩, Value.int .i64 0, Value.int .i64 0, Value.int .i64 0, Value.string ⟨#[]⟩].toArray 86) none))
 clear h
 go_enter Try.func80, Try.ntmps80
 go_wp2_with fail
 refine (rint_walk R s _ HS0.out).mono ?_
 rintro e w1 ⟨v1, x1, s1, rfl, ⟨rfl, hn⟩, hg, hst, hrel⟩
 have R1 := hid hrel
 have F1 := hid (FR.start1 86 [Value.int .i64 0, Value.int .i64 0, Value.int .i64 0, Value.int .i64 0, Value.slice none 0 0, Value.int .i64 0, Value.int .i64 0, Value.string ⟨#[]⟩, Value.int .i64 0, Value.int .i64 0, Value.int .i64 0, Value.string ⟨#[]⟩] [Value.int .i64 x1, Value.int .i64 0, Value.int .i64 0, Value.int .i64 0, Value.slice none 0 0, Value.int .i64 0, Value.int .i64 0, Value.string ⟨#[]⟩, Value.int .i64 0, Value.int .i64 0, Value.int .i64 0, Value.string ⟨#[]⟩] hR hg hst)
 have hBB := F1.out.hB
 clear hn
 clear hg hst hrel
 go_wp2_with fail
 refine (rint_walk R s1 _ F1.out.st).mono ?_
 rintro e w2 ⟨v2, x2, s2, rfl, ⟨rfl, hn⟩, hg, hst, hrel⟩
 have R2 := hid hrel
 have G2 := hid (F1.out.call hg hst)
 have c1 := G2.out.cell
 have f1 := G2.out.frozen
 clear hn
 clear hg hst hrel
 go_wp2_with fail
 have F2 := hid (G2.out.store1 1 (.int .i64 x2) (C' := [.int .i64 x1, .int .i64 x2, .int .i64 0, .int .i64 0, .slice none 0 0, .int .i64 0, .int .i64 0, .string ⟨#[]⟩, .int .i64 0, .int .i64 0, .int .i64 0, .string ⟨#[]⟩]) rfl)
 clear c1 f1
 refine (rint_walk R s2 _ F2.out.st).mono ?_
 rintro e w3 ⟨v3, x3, s3, rfl, ⟨rfl, hn⟩, hg, hst, hrel⟩
 have R3 := hid hrel
 have G3 := hid (F2.out.call hg hst)
 have c1 := G3.out.cell
 have f1 := G3.out.frozen
 clear hn
 clear hg hst hrel
 go_wp2_with fail
 have F3 := hid (G3.out.store1 2 (.int .i64 x3) (C' := [.int .i64 x1, .int .i64 x2, .int .i64 x3, .int .i64 0, .slice none 0 0, .int .i64 0, .int .i64 0, .string ⟨#[]⟩, .int .i64 0, .int .i64 0, .int .i64 0, .string ⟨#[]⟩]) rfl)
 clear c1 f1
 refine (rint_walk R s3 _ F3.out.st).mono ?_
 rintro e w4 ⟨v4, x4, s4, rfl, ⟨rfl, hn⟩, hg, hst, hrel⟩
 have R4 := hid hrel
 have G4 := hid (F3.out.call hg hst)
 have c1 := G4.out.cell
 have f1 := G4.out.frozen
 clear hn
 clear hg hst hrel
 go_wp2_with fail
 have F4 := hid (G4.out.store1 3 (.int .i64 x4) (C' := [.int .i64 x1, .int .i64 x2, .int .i64 x3, .int .i64 x4, .slice none 0 0, .int .i64 0, .int .i64 0, .string ⟨#[]⟩, .int .i64 0, .int .i64 0, .int .i64 0, .string ⟨#[]⟩]) rfl)
 clear c1 f1
 refine (rRow_read R s4 _ F4.out.st).mono ?_
 rintro e w5 ⟨v5, x5, s5, rfl, hrow, hg, hst, hrel⟩
 have RR5 := hid (hrow.down (L' := w1.heap.size + 1) (by have := F4.out.size; omega))
 obtain ⟨ao, cap, rfl, _, _⟩ := hrow.1.shape
 clear hrow
 have R5 := hid hrel
 have G5 := hid (F4.out.call hg hst)
 have c1 := G5.out.cell
 have f1 := G5.out.frozen
 clear hg hst hrel
 go_wp2_with fail
 have F5 := hid (G5.out.store1 4 (.slice ao x5.length cap) (C' := [.int .i64 x1, .int .i64 x2, .int .i64 x3, .int .i64 x4, .slice ao x5.length cap, .int .i64 0, .int .i64 0, .string ⟨#[]⟩, .int .i64 0, .int .i64 0, .int .i64 0, .string ⟨#[]⟩]) rfl)
 have RR5S := hid (RR5.out.past (grown_setCell w5 ⟨w1.heap.size, 4, none⟩ (.slice ao x5.length cap)) (by show w1.heap.size < _; omega))
 clear c1 f1
 refine (rval_read R s5 _ F5.out.st).mono ?_
 rintro e w6 ⟨v6, x6, s6, rfl, rfl, hg, hst, hrel⟩
 have RR6 := hid (RR5S.out.past hg (by omega))
 have R6 := hid hrel
 obtain ⟨x6k, x6n, x6t⟩ := x6
 have G6 := hid (F5.out.call hg hst)
 have c1 := G6.out.cell
 have f1 := G6.out.frozen
 clear hg hst hrel
 unfold vval
 go_wp2_with fail
 have F6 := hid (G6.out.stores 5 [.int .i64 x6k, .int .i64 x6n, .string x6t] (by simp) (C' := [.int .i64 x1, .int .i64 x2, .int .i64 x3, .int .i64 x4, .slice ao x5.length cap, .int .i64 x6k, .int .i64 x6n, .string x6t, .int .i64 0, .int .i64 0, .int .i64 0, .string ⟨#[]⟩]) rfl)
 have RR6S := hid (RR6.out.past (setCells_grown (w1.heap.size) [.int .i64 x6k, .int .i64 x6n, .string x6t] 5 w6) (by show w1.heap.size < _; omega))
 clear c1 f1
 refine (rint_walk R s6 _ F6.out.st).mono ?_
 rintro e w7 ⟨v7, x7, s7, rfl, ⟨rfl, hn⟩, hg, hst, hrel⟩
 have RR7 := hid (RR6S.out.past hg (by omega))
 have R7 := hid hrel
 have G7 := hid (F6.out.call hg hst)
 have c1 := G7.out.cell
 have f1 := G7.out.frozen
 clear hn
 clear hg hst hrel
 go_wp2_with fail
 have F7 := hid (G7.out.store1 8 (.int .i64 x7) (C' := [.int .i64 x1, .int .i64 x2, .int .i64 x3, .int .i64 x4, .slice ao x5.length cap, .int .i64 x6k, .int .i64 x6n, .string x6t, .int .i64 x7, .int .i64 0, .int .i64 0, .string ⟨#[]⟩]) rfl)
 have RR7S := hid (RR7.out.past (grown_setCell w7 ⟨w1.heap.size, 8, none⟩ (.int .i64 x7)) (by show w1.heap.size < _; omega))
 clear c1 f1
 refine (rval_read R s7 _ F7.out.st).mono ?_
 rintro e w8 ⟨v8, x8, s8, rfl, rfl, hg, hst, hrel⟩
 have RR8 := hid (RR7S.out.past hg (by omega))
 have R8 := hid hrel
 obtain ⟨x8k, x8n, x8t⟩ := x8
 have G8 := hid (F7.out.call hg hst)
 have c1 := G8.out.cell
 have f1 := G8.out.frozen
 have c0 := G8.out.cell0
 have f0 := G8.out.frozen0
 clear hg hst hrel
 unfold vval
 go_wp2
 have F8 := hid (G8.out.stores 9 [.int .i64 x8k, .int .i64 x8n, .string x8t] (by simp) (C' := [.int .i64 x1, .int .i64 x2, .int .i64 x3, .int .i64 x4, .slice ao x5.length cap, .int .i64 x6k, .int .i64 x6n, .string x6t, .int .i64 x7, .int .i64 x8k, .int .i64 x8n, .string x8t]) rfl)
 have RR8S := hid (RR8.out.past (setCells_grown (w1.heap.size) [.int .i64 x8k, .int .i64 x8n, .string x8t] 9 w8) (by show w1.heap.size < _; omega))
 obtain ⟨q1, q2, q3⟩ := F8.out.fin rfl
 exact ret_cell rfl rfl (tyCh ⟨x1, x2, x3, x4, x5, ⟨x6k, x6n, x6t⟩, x7, ⟨x8k, x8n, x8t⟩⟩ (.slice ao x5.length cap) (oneCell_sl RR8S.out.1)) q3 rfl ⟨_, ⟨x1, x2, x3, x4, x5, ⟨x6k, x6n, x6t⟩, x7, ⟨x8k, x8n, x8t⟩⟩, s8, rfl, ⟨.slice ao x5.length cap, rfl, (RR8S.out.past (setCells_grown w.heap.size [.int .i64 x1, .int .i64 x2, .int .i64 x3, .int .i64 x4, .slice ao x5.length cap, .int .i64 x6k, .int .i64 x6n, .string x6t, .int .i64 x7, .int .i64 x8k, .int .i64 x8n, .string x8t] 0 _) (by omega)).down (by omega)⟩, q1, q2, R1.out.bind (R2.out.bind (R3.out.bind (R4.out.bind (R5.out.bind (R6.out.bind (R7.out.bind (R8.out.bind (Rel.pure _ _))))))))⟩
theorem enterRInt2 : ∀ (av : Array Value) (w : World), ((Deferred.ofValue (.func (.func 23) #[] #[]) av).run Try.prog w).andThen (fun a w' => (invoke a.target a.args).run Try.prog w') = .ok (.enter 23 av) w := enter_of Try.func23 (by kernel_rfl) rfl
structure RRecMid (L : Nat) (w wr : World) (R B : Nat) (r q d : Value) (k : Nat) (xs : List Value) (sk : St) (w2 : World) (x : Int) (s2 : St) : Prop where
 fr : FR 33 L w w2 R B s2 95 [.slice none 0 0, .slice none 0 0, .int .i64 0] [r, q, d]
 own : Own w2 3 1 q k xs
 hg : wr.grownBy w2 (some R)
 rel : Rel pInt sk x s2
theorem rrec_int {L : Nat} {w wr : World} {R B : Nat} {r q d : Value} {k : Nat} {xs : List Value} {sk : St} (FK : FR 33 L w wr R B sk 95 [.slice none 0 0, .slice none 0 0, .int .i64 0] [r, q, d])
   (OWN : Own wr 3 1 q k xs) (HHI : Hi q (B + 1)) :
   Calls Try.prog 23 #[.pointer (some ⟨R, 0, none⟩)] wr.drew fun e w2 => ∃ x s2, e = .returned (.int .i64 x) ∧ w2.cell? ⟨B, 1, none⟩ = some q ∧ (∀ o, (w2.alloc o).cell? ⟨B, 1, none⟩ = some q) ∧ Hid (RRecMid L w wr R B r q d k xs sk w2 x s2) := by
 have hfd := FK.past (grown_drew wr) (fun k hk => by cases hk)
 refine (rint_walk R sk _ hfd.st).mono ?_
 rintro e w2 ⟨v2, x, s2, rfl, ⟨rfl, hn⟩, hg2, hst2, hrel2⟩
 have hR := FK.lt
 have hB := FK.hB
 have hne : q.ownBlock ≠ some R := fun e => by have := HHI _ e; omega
 have h1 : Own wr.drew 3 1 q k xs := OWN.kept (grown_drew wr) (by cases q.ownBlock <;> simp)
 exact ⟨x, s2, rfl, (hfd.call hg2 hst2).cell 1, (fun o => ((hfd.call hg2 hst2).past (World.grownBy_alloc w2 o none) (fun k hk => by cases hk)).cell 1), hid ⟨hfd.call hg2 hst2, h1.kept hg2 (.inr hne), grown_trans (grown_none (grown_drew wr)) hg2, hrel2⟩⟩
theorem rRecord_read {L : Nat} (R : Nat) (s : St) (w : World) (h : RSt 33 L w R s) :
   Calls Try.prog 78 #[.pointer (some ⟨R, 0, none⟩)] w (RdPost 33 L w R pRec s (repRec w.heap.size)) := by
 have hR := h.lt
 have F0 := hid (h.kept (World.grownBy_alloc w (.cells #[.slice none 0 0, .slice none 0 0, .int .i64 0] 95) none))
 clear h
 go_enter Try.func78, Try.ntmps78
 go_wp2_with fail
 refine (rRow_read R s _ F0.out).mono ?_
 rintro e w1 ⟨v1, x1, s1, rfl, hrow, hg, hst, hrel⟩
 obtain ⟨ao, cap, rfl, hxc, hcm⟩ := hrow.1.shape
 have G1 := hid (FR.start1 95 [.slice none 0 0, .slice none 0 0, .int .i64 0] [.slice ao x1.length cap, .slice none 0 0, .int .i64 0] hR hg hst)
 have hs0 : w.heap.size + 1 ≤ w1.heap.size := by have := hg.size; simpa using this
 have hrow1 : repRow (w.heap.size + 1) w1 (.slice ao x1.length cap) x1 := hrow.down (by simp)
 have NE := hid hrow1.ne
 have RR1 := hid (hrow1.grow (World.grownBy_alloc w1 (.cells #[.slice ao x1.length cap, .slice none 0 0, .int .i64 0] 95) none))
 have UP := hid (fun k (hk : (Value.slice ao x1.length cap).ownBlock = some k) => (hrow1.2 k hk).2)
 have R1 := hid hrel
 clear hrow hg hst hrel hrow1
 have hlen : x1.length ≤ 1000000 := RR1.out.len
 clear hxc hcm
 have c0 := G1.out.cell
 have f0 := G1.out.frozen
 go_wp2
 clear c0 f0
 go_loopw [4] (fun i wr => ∃ (k : Nat) (xs : List Int) (sk : St) (q : Value), k ≤ x1.length ∧ i = .int .i64 k ∧ xs.length = k ∧ FR 33 L w wr R w1.heap.size sk 95 [.slice none 0 0, .slice none 0 0, .int .i64 0] [.slice ao x1.length cap, q, .int .i64 0] ∧ Own wr 3 1 q k (xs.map (Value.int .i64)) ∧ Hi q (w1.heap.size + 1) ∧ repRow (w.heap.size + 1) wr (.slice ao x1.length cap) x1 ∧ Rel (pRep pInt k) s1 xs sk) (fun i _ => x1.length - (intOf i).toNat)
 case atStart => exact ⟨0, [], s1, .slice none 0 0, Nat.zero_le _, rfl, rfl, G1.out, Own.nil _ _ _, fun k hk => by simp [Value.ownBlock] at hk, RR1.out, Rel.pure _ _⟩
 case round =>
   obtain ⟨k, xs, sk, q, hk, rfl, hxl, hfr, hown, hhi, hrr, hrelk⟩ := hrel
   have FK := hid hfr
   have OWN := hid hown
   have HHI := hid hhi
   have RRK := hid hrr
   have RK := hid hrelk
   have hqs : ∃ aq cq, q = .slice aq k cq := by
     obtain ⟨_, aq, cq, h, _⟩ := Sl.of_own hown
     exact ⟨aq, cq, h⟩
   obtain ⟨aq, cq, rfl⟩ := hqs
   have c1 := hfr.cell
   have f1 := hfr.frozen
   obtain ⟨rv, er, hrow, hok, hbad⟩ := hfr.st.row
   obtain ⟨p0, p1, p2, p3⟩ := row2 hrow
   clear hfr hown hhi hrr hrelk hrow
   by_cases hlt : k < x1.length
   · cases hsk : sk with
     | error ee =>
       obtain ⟨rfl, hne⟩ := hbad ee hsk
       have be : ((ee : Int) == 0) = false := by simp; omega
       have RKE := hid (show Rel (pRep pInt x1.length) s1 xs sk from by rw [hsk]; exact rep_err hk (hsk ▸ RK.out))
       have HSK := hid hsk
       clear hok hbad hsk
       go_wp2_with fail
       clear c1 f1
       refine (rint_walk R sk _ FK.out.st).mono ?_
       rintro e w2 ⟨v2, d, s2, rfl, ⟨rfl, hn⟩, hg, hst, hrel⟩
       have G2 := hid (FK.out.call hg hst)
       have R2 := hid hrel
       have HG := hid hg
       have c1 := G2.out.cell
       have f1 := G2.out.frozen
       have c0 := G2.out.cell0
       have f0 := G2.out.frozen0
       clear hn hg hst hrel
       go_wp2
       have F2 := hid (G2.out.store1 2 (.int .i64 d) (C' := [.slice ao x1.length cap, .slice aq k cq, .int .i64 d]) rfl)
       obtain ⟨q1, q2, q3⟩ := F2.out.fin rfl
       have hsz := FK.out.size
       have hr2 := ((RRK.out.past HG.out (by omega)).past2 (grown_setCell w2 ⟨w1.heap.size, 2, none⟩ (.int .i64 d)) NE.out).past (setCells_grown w.heap.size [.slice ao x1.length cap, .slice aq k cq, .int .i64 d] 0 _) (by omega)
       have hq2 := ((((OWN.out.kept HG.out (.inr fun e => by have := HHI.out _ e; omega)).kept (grown_setCell w2 ⟨w1.heap.size, 2, none⟩ (.int .i64 d)) (.inr fun e => by have h9 : w1.heap.size + 1 ≤ w1.heap.size := HHI.out _ e; omega)).kept (setCells_grown w.heap.size [.slice ao x1.length cap, .slice aq k cq, .int .i64 d] 0 _) (.inr fun e => by have := HHI.out _ e; omega)))
       have hql := Own.lt' hq2
       have hrep : repRec w.heap.size (((w2.setCell ⟨w1.heap.size, 2, none⟩ (.int .i64 d))).setCells w.heap.size 0 [.slice ao x1.length cap, .slice aq k cq, .int .i64 d]) (.agg #[.slice ao x1.length cap, .slice aq k cq, .int .i64 d]) ⟨x1, xs, d⟩ :=
         ⟨_, _, rfl, hr2.down (by omega), ⟨by rw [hxl]; exact Sl.of_own hq2, fun k hk => ⟨by have := HHI.out k hk; omega, hql k hk⟩⟩⟩
       exact ret_cell rfl rfl (tyRec _ _ d rfl rfl) q3 rfl ⟨_, ⟨x1, xs, d⟩, s2, rfl, hrep, q1, q2, R1.out.bind (RKE.out.bind (R2.out.bind (Rel.pure _ _)))⟩
     | ok lk =>
       obtain ⟨rfl, _⟩ := hok lk hsk
       clear hok hbad hsk
       have c2 := c1 1
       have f2 := f1 1
       go_wp2
       clear c1 f1
       go_region_law
         (first
           | (refine step_callS rfl 23 #[.tmp 24] #[31] rfl enterRInt2 #[.pointer (some ⟨R, 0, none⟩)] (by simp [Act.eval, Act.put]) (rrec_int FK.out OWN.out HHI.out) ?_
              rintro e w2 ⟨x, s2, rfl, c2, c2b, M2⟩
              refine ⟨_, rfl, ?_⟩)
           | (refine step_pushS intsT rfl _ _ rfl _ _ _ rfl [.int .i64 x] 1 w2.heap.size (M2.out.own.alloc _) rfl rfl rfl rfl (by omega) ?_
              intro a3 p3 w3 hown4 hst4
              have F3 := hid ((M2.out.fr.past (World.grownBy_alloc w2 (.cells #[.int .i64 x] 3) none) (fun k hk => by cases hk)).past hst4.1 (fun k hk => by have := HHI.out k hk; omega))
              have c3 := F3.out.cell 1
              have f3 := F3.out.frozen 1)
           | fail)
       all_goals go_wp2
       all_goals go_roundw
       case measure => simp [intOf]; omega
       case measure => simp [intOf]; omega
       case measure => simp [intOf]; omega
       all_goals
         have hB1 := M2.out.fr.size
         have hHi := HHI.out.step hst4 (by simp; omega)
         have hr2 := ((RRK.out.past M2.out.hg (by omega)).grow (World.grownBy_alloc w2 (.cells #[.int .i64 x] 3) none)).past3 hst4.1 (fun b hb e => by have := UP.out b hb; have := HHI.out b e.symm; omega)
         exact ⟨k + 1, xs ++ [x], s2, .slice a3 (k + 1) p3, by omega, by go_num, by simp [hxl], F3.out.store1 1 _ rfl, by simpa using hown4.kept (grown_setCell w3 ⟨w1.heap.size, 1, none⟩ (.slice a3 (k + 1) p3)) (.inr fun e => by have h9 : w1.heap.size + 1 ≤ w1.heap.size := hHi _ e; omega), hHi, hr2.past2 (grown_setCell w3 ⟨w1.heap.size, 1, none⟩ (.slice a3 (k + 1) p3)) NE.out, rep_snoc k RK.out M2.out.rel⟩
   · obtain rfl : k = x1.length := by omega
     clear hlt hk hok hbad p0 p1 p2 p3
     go_wp2_with fail
     clear c1 f1
     refine (rint_walk R sk _ FK.out.st).mono ?_
     rintro e w2 ⟨v2, d, s2, rfl, ⟨rfl, hn⟩, hg, hst, hrel⟩
     have G2 := hid (FK.out.call hg hst)
     have R2 := hid hrel
     have HG := hid hg
     have c1 := G2.out.cell
     have f1 := G2.out.frozen
     have c0 := G2.out.cell0
     have f0 := G2.out.frozen0
     clear hn hg hst hrel
     go_wp2
     have F2 := hid (G2.out.store1 2 (.int .i64 d) (C' := [.slice ao x1.length cap, .slice aq x1.length cq, .int .i64 d]) rfl)
     obtain ⟨q1, q2, q3⟩ := F2.out.fin rfl
     have hsz := FK.out.size
     have hr2 := ((RRK.out.past HG.out (by omega)).past2 (grown_setCell w2 ⟨w1.heap.size, 2, none⟩ (.int .i64 d)) NE.out).past (setCells_grown w.heap.size [.slice ao x1.length cap, .slice aq x1.length cq, .int .i64 d] 0 _) (by omega)
     have hq2 := ((((OWN.out.kept HG.out (.inr fun e => by have := HHI.out _ e; omega)).kept (grown_setCell w2 ⟨w1.heap.size, 2, none⟩ (.int .i64 d)) (.inr fun e => by have h9 : w1.heap.size + 1 ≤ w1.heap.size := HHI.out _ e; omega)).kept (setCells_grown w.heap.size [.slice ao x1.length cap, .slice aq x1.length cq, .int .i64 d] 0 _) (.inr fun e => by have := HHI.out _ e; omega)))
     have hql := Own.lt' hq2
     have hrep : repRec w.heap.size (((w2.setCell ⟨w1.heap.size, 2, none⟩ (.int .i64 d))).setCells w.heap.size 0 [.slice ao x1.length cap, .slice aq x1.length cq, .int .i64 d]) (.agg #[.slice ao x1.length cap, .slice aq x1.length cq, .int .i64 d]) ⟨x1, xs, d⟩ :=
       ⟨_, _, rfl, hr2.down (by omega), ⟨by rw [hxl]; exact Sl.of_own hq2, fun k hk => ⟨by have := HHI.out k hk; omega, hql k hk⟩⟩⟩
     exact ret_cell rfl rfl (tyRec _ _ d rfl rfl) q3 rfl ⟨_, ⟨x1, xs, d⟩, s2, rfl, hrep, q1, q2, R1.out.bind (RK.out.bind (R2.out.bind (Rel.pure _ _)))⟩
theorem dg_set (x : List Nat) (k : Nat) (h : k < x.length) (h2 : x.length ≤ 32) : (bv (x.take k ++ z32.drop k)).set k (.int .u8 (x[k] : Nat)) = bv (x.take (k + 1) ++ z32.drop (k + 1)) := by
 have hz : z32.length = 32 := by simp [z32]
 have e1 : z32.drop k = z32[k]'(by omega) :: z32.drop (k + 1) := List.drop_eq_getElem_cons (by omega)
 have e2 : x.take (k + 1) = x.take k ++ [x[k]] := by rw [List.take_add_one, List.getElem?_eq_getElem h]; rfl
 have e3 : (bv (x.take k)).length = k := by rw [bv_length, List.length_take]; omega
 rw [e1, e2, bv_append, bv_append, List.set_append_right _ _ (by omega), e3, Nat.sub_self, bv_append, List.append_assoc]
 rfl
theorem dg_len (x : List Nat) (k : Nat) (h : k ≤ x.length) (h2 : x.length ≤ 32) : (x.take k ++ z32.drop k).length = 32 := by
 have hz : z32.length = 32 := by simp [z32]
 rw [List.length_append, List.length_take, List.length_drop]
 omega
theorem dg_end (x : List Nat) (h2 : x.length ≤ 32) : x.take x.length ++ z32.drop x.length = dig32 x := by
 unfold dig32
 rw [List.take_length, List.take_of_length_le h2]
theorem rDigest_read {L : Nat} (R : Nat) (s : St) (w : World) (h : RSt 33 L w R s) :
   Calls Try.prog 159 #[.pointer (some ⟨R, 0, none⟩)] w (RdPost 33 L w R (pBytes 32) s repDig) := by
 have hR := h.lt
 have F0 := hid (FR.start 45 [.int .u8 0, .int .u8 0, .int .u8 0, .int .u8 0, .int .u8 0, .int .u8 0, .int .u8 0, .int .u8 0, .int .u8 0, .int .u8 0, .int .u8 0, .int .u8 0, .int .u8 0, .int .u8 0, .int .u8 0, .int .u8 0, .int .u8 0, .int .u8 0, .int .u8 0, .int .u8 0, .int .u8 0, .int .u8 0, .int .u8 0, .int .u8 0, .int .u8 0, .int .u8 0, .int .u8 0, .int .u8 0, .int .u8 0, .int .u8 0, .int .u8 0, .int .u8 0] h)
 clear h
 go_enter Try.func159, Try.ntmps159
 go_wp2_with fail
 refine (rtake_walk R s 32 _ F0.out.st (by omega) (fun _ _ => by omega)).mono ?_
 rintro e w1 ⟨v1, x, s1, rfl, ⟨⟨hx, hxb, hxl⟩, hx32, hlo⟩, hg, hst, hrel⟩
 have hx32 : x.length ≤ 32 := hx32
 have R1 := hid hrel
 have G1 := hid (F0.out.call hg hst)
 have HX := hid hx
 have HLO := hid (show ∀ k, v1.ownBlock = some k → w.heap.size + 2 ≤ k from fun k hk => by have := hlo k hk; simpa using this)
 clear hg hst hrel hx hxl hlo
 obtain ⟨ao, cap, rfl, _, _⟩ := HX.out.shape
 go_wp2
 go_loopw [5] (fun i wr => ∃ (k : Nat), k ≤ x.length ∧ i = .int .i64 k ∧ FR 33 L w wr R (w.heap.size + 1) s1 45 [.int .u8 0, .int .u8 0, .int .u8 0, .int .u8 0, .int .u8 0, .int .u8 0, .int .u8 0, .int .u8 0, .int .u8 0, .int .u8 0, .int .u8 0, .int .u8 0, .int .u8 0, .int .u8 0, .int .u8 0, .int .u8 0, .int .u8 0, .int .u8 0, .int .u8 0, .int .u8 0, .int .u8 0, .int .u8 0, .int .u8 0, .int .u8 0, .int .u8 0, .int .u8 0, .int .u8 0, .int .u8 0, .int .u8 0, .int .u8 0, .int .u8 0, .int .u8 0] (bv (x.take k ++ z32.drop k)) ∧ Sl wr 1 (.slice ao x.length cap) x.length (bv x)) (fun i _ => x.length - (intOf i).toNat)
 case atStart => exact ⟨0, Nat.zero_le _, rfl, by rw [List.take_zero, List.nil_append, List.drop_zero, bv_z32]; exact G1.out, HX.out⟩
 case round =>
   obtain ⟨k, hk, rfl, hfr, hsl⟩ := hrel
   have FK := hid hfr
   have SK := hid hsl
   by_cases hlt : k < x.length
   · obtain ⟨blk, off, hao, hc⟩ := hsl.at k (by rw [bv_length]; exact hlt)
     cases hao
     have hcell : wr.cell? ⟨blk, off + k, none⟩ = some (.int .u8 (x[k] : Nat)) := (hc k (by rw [bv_length]; exact hlt)).trans (by simp [bv])
     have hk32 : k < 32 := by omega
     have c1 := hfr.cell k
     have f1 := hfr.frozen k
     have hcl : (bv (x.take k ++ z32.drop k)).toArray[k]? = some ((bv (x.take k ++ z32.drop k))[k]'(by rw [bv_length, dg_len x k hk hx32]; omega)) := by simp
     rw [hcl] at c1
     have SET := hid (dg_set x k hlt hx32)
     clear hcl hfr hsl hc
     generalize (bv (x.take k ++ z32.drop k))[k]'_ = old at *
     generalize x[k] = c at *
     go_wp2
     go_roundw
     case measure => simp [intOf]; omega
     case rel =>
       have g := grown_setCell wr ⟨w.heap.size + 1, k, none⟩ (.int .u8 c)
       exact ⟨k + 1, by omega, by go_num, FK.out.store1 k _ SET.out, SK.out.kept g (.inr fun e => by have h9 : w.heap.size + 2 ≤ w.heap.size + 1 := HLO.out _ e; omega)⟩
   · obtain rfl : k = x.length := by omega
     rw [dg_end x hx32] at hfr
     have hd := tyDig (dig32 x) (dig32_length x)
     obtain ⟨V, hV⟩ : ∃ V : Value, V = .agg (bv (dig32 x)).toArray := ⟨_, rfl⟩
     rw [← hV] at hd
     have M3 := hid (hd.stores hfr.b0 (by rw [bv_length, dig32_length]; rfl)).2
     have FE := hid hfr
     have HD := hid hd
     clear hfr hsl hd
     go_wp2_with (first | (refine wpList_loadTY rfl 45 (.tmp 3) rfl rfl HD.out FE.out.b1 ?_) | (refine wpList_storeTY rfl 45 (.tmp 2) (.tmp 20) rfl rfl rfl HD.out FE.out.b0 (by rw [bv_length, dig32_length]; rfl) ?_) | fail)
     have q1 := M3.out.1
     have q2 := M3.out.2
     exact ret_cell rfl rfl HD.out q2 rfl ⟨_, dig32 x, s1, rfl, ⟨hV, dig32_length x, dig32_lt hxb⟩, grown_R FE.out.hg q1 (Nat.le_refl _), FE.out.st.past q1 hR, dig_rel R1.out⟩
end Go.Proofs.Ytkeiffccllfkpaa
/- A region whose last operation waits for all others. -/
namespace Go.Proofs.Ytkeiffccllfkpaa
open Go.RowKit
theorem ty3 (n : Int) : TY Try.prog 3 [.int .i64 n] (.int .i64 n) := TY.one' Try.underlying3 rfl (by kernel_rfl) rfl
theorem Own.block {w : World} {base : Nat} {e : TypeId} {sz : Nat} {v : Value} {n : Nat} {xs : List Value} (h : w.ownsRow base e sz v n xs) {b : Nat} (hb : v.ownBlock = some b) : ∃ c fr, w.heap[b]? = some (.cells c e fr) := by
 rcases h.2 with ⟨rfl, _⟩ | ⟨g, cap, cur, rfl, _, hg, _⟩
 · simp [Value.ownBlock] at hb
 · simp [Value.ownBlock] at hb
   subst hb
   exact ⟨_, _, hg⟩
theorem Own.past {w w' : World} {e T : TypeId} {sz : Nat} {v : Value} {n : Nat} {xs : List Value} {A : Nat} {c : Array Value} {fr : Nat × Nat} (h : Own w e sz v n xs) (g : w.grownBy w' (some A)) (hA : w.heap[A]? = some (.cells c T fr)) (hne : e ≠ T) : Own w' e sz v n xs :=
 h.kept g (.inr (Own.ne h hA hne))
theorem wpList_storeAt {P : Program} {ops : Array Oper} {rest : List Oper} {o : Oper} {a : Act} {w : World} {Q : Exit → Act → World → Prop} (hgd : o.guard = none) (T : TypeId) (x y : Operand) (ho : o.op = .store T x y)
   {b k : Nat} {cs C : List Value} {v : Value} {t : TypeId} (hx : a.eval x = .pointer (some ⟨b, k, none⟩)) (hy : a.eval y = v) (ty : TY P T cs v) (hb : w.heap[b]? = some (.cells C.toArray t (0, 0))) (hc : k + cs.length ≤ C.length)
   (h : ∀ w', w.grownBy w' (some b) → w'.heap[b]? = some (.cells (C.take k ++ (cs ++ C.drop (k + cs.length))).toArray t (0, 0)) → wpList P ops Q rest (a.put o.dst undef) w') : wpList P ops Q (o :: rest) a w := by
 refine wpList_plain hgd fun K hK => ?_
 have hl : (Instr.storeAt T (.pointer (some ⟨b, k, none⟩)) v).run P w = .ok () (w.setCells b k cs) := by
   have := run_storeCells_cells (P := P) b k cs 0 w (fun j hj => by
     rw [cell_of_row w b _ _ t _ hb]
     have hj' : k + j < C.length := by omega
     simp [hj']) (fun j hj => frozen_of_row w b _ _ t hb) ty.one
   simp only [Instr.storeAt, Instr.sureAddr, Sem.run_bind, Sem.run_pure, Result.andThen_ok]
   have hs := ty.size
   cases hq : P.info? T with
   | none => simp [hq] at hs
   | some i =>
     have hs' : i.size = cs.length := by simpa [hq] using hs
     simp only [Nat.add_zero] at this
     simp [storeVar, sizeOf, typeInfo, hq, ty.cells, hs', this]
 unfold Oper.wp execOp
 simp only [ho, hx, hy, Sem.run_bind, Sem.run_pure, Result.andThen_ok, hl]
 exact hK _ _ (h _ (setCells_grown b cs k w) (setCells_mid C k cs hb hc))
end Go.Proofs.Ytkeiffccllfkpaa
/- The program's appenders of identifiers, links, holds, requests, changes. -/
namespace Go.Proofs.Ytkeiffccllfkpaa
open Go.RowKit
set_option linter.unusedSimpArgs false
set_option linter.unusedVariables false
set_option linter.unusedVariables false
set_option linter.unusedVariables false
set_option linter.unusedVariables false
end Go.Proofs.Ytkeiffccllfkpaa
/- The reference's encodings of identifiers, links, holds, requests, changes. -/
namespace Go.Proofs.Ytkeiffccllfkpaa
open Go.RowKit
set_option linter.unusedSimpArgs false
set_option linter.unusedVariables false
set_option linter.unusedVariables false
set_option linter.unusedVariables false
set_option linter.unusedVariables false
set_option linter.unusedVariables false
set_option linter.unusedVariables false
end Go.Proofs.Ytkeiffccllfkpaa
