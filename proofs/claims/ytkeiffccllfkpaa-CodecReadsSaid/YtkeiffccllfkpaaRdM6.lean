import Derived.Test.YtkeiffccllfkpaaRdM3
import Derived.Test.YtkeiffccllfkpaaRdM4
import Derived.Deep.RegionHeld3
import Derived.Deep.RegionLaw
import Derived.Deep.AppendLies
set_option linter.unusedSimpArgs false
set_option linter.unusedVariables false
set_option maxRecDepth 100000
set_option maxHeartbeats 1000000
/- The reader's data. (merged by merge.py) -/
namespace Go.Proofs.Ytkeiffccllfkpaa
/-! ## Text -/
/-! ## Rv -/
section
open Go.RowKit
theorem RSt.lt {T : TypeId} {L : Nat} {w : World} {R : Nat} {s : St} (h : RSt T L w R s) : R < w.heap.size := by
 obtain ⟨v, e, h, _⟩ := h.row
 exact (Array.getElem?_eq_some_iff.1 h).1
theorem grown_R {a b c : World} {R B : Nat} (h : a.grownBy b (some R)) (k : b.grownBy c (some B)) (hB : a.heap.size ≤ B) : a.grownBy c (some R) :=
 ⟨k.os.trans h.os, k.tape.trans h.tape, k.output.trans h.output, Nat.le_trans h.size k.size, fun i hi hne =>
   (k.block i (Nat.lt_of_lt_of_le hi h.size) (by simp; omega)).trans (h.block i hi hne)⟩
theorem grown_0 {a b : World} {R : Nat} (h : a.grownBy b none) : a.grownBy b (some R) := grown_none h
theorem setCells_mid {w : World} {b : Nat} {t : TypeId} (C : List Value) (o : Nat) (vs : List Value) (h : w.heap[b]? = some (.cells C.toArray t (0, 0))) (ho : o + vs.length ≤ C.length) :
   (w.setCells b o vs).heap[b]? = some (.cells (C.take o ++ (vs ++ C.drop (o + vs.length))).toArray t (0, 0)) := by
 have key : ∀ (vs : List Value) (o : Nat) (w : World) (pre mid post : List Value), o = pre.length → vs.length = mid.length → w.heap[b]? = some (.cells (pre ++ (mid ++ post)).toArray t (0, 0)) →
     (w.setCells b o vs).heap[b]? = some (.cells (pre ++ (vs ++ post)).toArray t (0, 0)) := by
   intro vs
   induction vs with
   | nil =>
     intro o w pre mid post _ hl h
     obtain rfl : mid = [] := List.eq_nil_of_length_eq_zero (by simpa using hl.symm)
     exact h
   | cons v r ih =>
     intro o w pre mid post ho hl h
     cases mid with
     | nil => simp at hl
     | cons x mid =>
       rw [World.setCells]
       have := heap_setCell_same w b o _ t v h
       have e : ((pre ++ (x :: mid ++ post)).toArray.setIfInBounds o v) = ((pre ++ [v]) ++ (mid ++ post)).toArray := by
         subst ho
         simp
       rw [e] at this
       have := ih (o + 1) _ (pre ++ [v]) mid post (by simp [ho]) (by simpa using hl) this
       simpa using this
 refine key vs o w (C.take o) ((C.drop o).take vs.length) (C.drop (o + vs.length)) (by simp; omega) (by simp; omega) ?_
 rw [← List.drop_drop, List.take_append_drop, List.take_append_drop]
 exact h
def repV (_ : World) (v : Value) (x : V) : Prop := v = vval x
theorem value_walk {L : Nat} (R : Nat) (s : St) (w : World) (h : RSt 201 L w R s) :
   Calls Try.prog 119 #[.pointer (some ⟨R, 0, none⟩)] w (RdPost 201 L w R pV s repV) := by
 have hR := h.lt
 have ga := World.grownBy_alloc w (.cells #[.int .i64 0, .int .i64 0, .string ⟨#[]⟩] 67) none
 have hst := h.kept ga
 have GA := hid ga
 have HST := hid hst
 clear ga hst h
 go_enter Try.func119, Try.ntmps119
 go_wp2_with fail
 refine (intIn_walk R s 0 2 _ HST.out).mono ?_
 rintro e w1 ⟨v1, k, s1, rfl, ⟨rfl, hk⟩, hg1, hst1, hrel1⟩
 have hA := row_of hg1 (heap_at rfl) (by simp; omega)
 have hsz := hg1.size
 have hR1 : w.heap.size < w1.heap.size := by simp at hsz; omega
 have hgW : w.grownBy (w1.alloc (.cells #[.int .i64 k, .int .i64 0, .string ⟨#[]⟩] 67)) (some R) := grown_trans (grown_trans (grown_0 GA.out) hg1) (World.grownBy_alloc _ _ _)
 have hAW := (heap_past (w := w1) (o := .cells #[.int .i64 k, .int .i64 0, .string ⟨#[]⟩] 67) hR1).trans hA
 have hBW := heap_at (w := w1) (o := .cells #[.int .i64 k, .int .i64 0, .string ⟨#[]⟩] 67) (n := w1.heap.size) rfl
 have hstW := hst1.kept (World.grownBy_alloc w1 (.cells #[.int .i64 k, .int .i64 0, .string ⟨#[]⟩] 67) none)
 have REL1 := hid hrel1
 have HA1 := hid hA
 have G1 := hid hg1
 have ST1 := hid hst1
 have GW := hid hgW
 have AW := hid hAW
 have BW := hid hBW
 have SW := hid hstW
 clear hg1 hst1 hrel1 hA hsz hgW hAW hBW hstW
 by_cases hk1 : k = 1
 · subst hk1
   go_wp2_with fail
   generalize w1.alloc (.cells #[.int .i64 1, .int .i64 0, .string ⟨#[]⟩] 67) = W at *
   refine (intIn_walk R s1 (-4294967296) 4294967296 _ SW.out).mono ?_
   rintro e w2 ⟨v2, n, s2, rfl, ⟨rfl, hn⟩, hg2, hst2, hrel2⟩
   have hA2 := row_of hg2 AW.out (by simp; omega)
   have hB2 := row_of hg2 BW.out (by simp; omega)
   have a1 : ∀ j, w2.cell? ⟨w.heap.size, j, none⟩ = (#[Value.int .i64 0, .int .i64 0, .string ⟨#[]⟩] : Array Value)[j]? := fun j => cell_of_row w2 _ j _ _ _ hA2
   have a2 : ∀ j, w2.frozen? ⟨w.heap.size, j, none⟩ = false := fun j => frozen_of_row w2 _ j _ _ hA2
   have b1 : ∀ j, w2.cell? ⟨w1.heap.size, j, none⟩ = (#[Value.int .i64 1, .int .i64 0, .string ⟨#[]⟩] : Array Value)[j]? := fun j => cell_of_row w2 _ j _ _ _ hB2
   have b2 : ∀ j, w2.frozen? ⟨w1.heap.size, j, none⟩ = false := fun j => frozen_of_row w2 _ j _ _ hB2
   have HA2 := hid hA2
   have G2 := hid hg2
   have S2 := hid hst2
   have R2 := hid hrel2
   clear hA2 hB2 hg2 hst2 hrel2
   go_wp2
   have gX := grown_setCell w2 ⟨w1.heap.size, 1, none⟩ (.int .i64 n)
   have hAX := row_of gX HA2.out (by simp; omega)
   obtain ⟨q1, q2⟩ := setCells_all [.int .i64 1, .int .i64 n, .string ⟨#[]⟩] hAX rfl
   exact ret_cell rfl rfl (tyV ⟨1, n, ByteArray.empty⟩) q2 rfl ⟨_, ⟨1, n, ByteArray.empty⟩, s2, rfl, rfl, grown_R (grown_R (grown_trans GW.out G2.out) gX (by simp; omega)) q1 (by simp), (S2.out.past gX (by simp; omega)).past q1 (by omega),
     (by unfold pV; refine Rel.bind REL1.out ?_; rw [if_pos rfl]; exact Rel.bind R2.out (Rel.pure _ _))⟩
 by_cases hk2 : k = 2
 · subst hk2
   go_wp2_with fail
   generalize w1.alloc (.cells #[.int .i64 2, .int .i64 0, .string ⟨#[]⟩] 67) = W at *
   refine (text_walk R s1 32 _ SW.out (by decide)).mono ?_
   rintro e w2 ⟨v2, n, s2, rfl, ⟨rfl, hn⟩, hg2, hst2, hrel2⟩
   have hA2 := row_of hg2 AW.out (by simp; omega)
   have hB2 := row_of hg2 BW.out (by simp; omega)
   have a1 : ∀ j, w2.cell? ⟨w.heap.size, j, none⟩ = (#[Value.int .i64 0, .int .i64 0, .string ⟨#[]⟩] : Array Value)[j]? := fun j => cell_of_row w2 _ j _ _ _ hA2
   have a2 : ∀ j, w2.frozen? ⟨w.heap.size, j, none⟩ = false := fun j => frozen_of_row w2 _ j _ _ hA2
   have b1 : ∀ j, w2.cell? ⟨w1.heap.size, j, none⟩ = (#[Value.int .i64 2, .int .i64 0, .string ⟨#[]⟩] : Array Value)[j]? := fun j => cell_of_row w2 _ j _ _ _ hB2
   have b2 : ∀ j, w2.frozen? ⟨w1.heap.size, j, none⟩ = false := fun j => frozen_of_row w2 _ j _ _ hB2
   have HA2 := hid hA2
   have G2 := hid hg2
   have S2 := hid hst2
   have R2 := hid hrel2
   clear hA2 hB2 hg2 hst2 hrel2
   go_wp2
   have gX := grown_setCell w2 ⟨w1.heap.size, 2, none⟩ (.string n)
   have hAX := row_of gX HA2.out (by simp; omega)
   obtain ⟨q1, q2⟩ := setCells_all [.int .i64 2, .int .i64 0, .string n] hAX rfl
   exact ret_cell rfl rfl (tyV ⟨2, 0, n⟩) q2 rfl ⟨_, ⟨2, 0, n⟩, s2, rfl, rfl, grown_R (grown_R (grown_trans GW.out G2.out) gX (by simp; omega)) q1 (by simp), (S2.out.past gX (by simp; omega)).past q1 (by omega),
     (by unfold pV; refine Rel.bind REL1.out ?_; rw [if_neg (by decide), if_pos rfl]; exact Rel.bind R2.out (Rel.pure _ _))⟩
 have e1 : (k == 1) = false := by simpa using hk1
 have e2 : (k == 2) = false := by simpa using hk2
 have HK := hid (And.intro hk1 hk2)
 have hA2 := HA1.out
 have a1 : ∀ j, w1.cell? ⟨w.heap.size, j, none⟩ = (#[Value.int .i64 0, .int .i64 0, .string ⟨#[]⟩] : Array Value)[j]? := fun j => cell_of_row _ _ j _ _ _ hA2
 have a2 : ∀ j, w1.frozen? ⟨w.heap.size, j, none⟩ = false := fun j => frozen_of_row _ _ j _ _ hA2
 clear hk1 hk2 hA2
 go_wp2
 obtain ⟨q1, q2⟩ := setCells_all [.int .i64 k, .int .i64 0, .string ⟨#[]⟩] HA1.out rfl
 have q3 := heap_past (w := w1.setCells w.heap.size 0 [.int .i64 k, .int .i64 0, .string ⟨#[]⟩]) (o := .cells #[.int .i64 k, .int .i64 0, .string ⟨#[]⟩] 67) (Array.getElem?_eq_some_iff.1 q2).1
 have gA := World.grownBy_alloc (w1.setCells w.heap.size 0 [.int .i64 k, .int .i64 0, .string ⟨#[]⟩]) (.cells #[.int .i64 k, .int .i64 0, .string ⟨#[]⟩] 67)
 exact ret_cell rfl rfl (tyV ⟨k, 0, ByteArray.empty⟩) (q3.trans q2) rfl ⟨_, ⟨k, 0, ByteArray.empty⟩, s1, rfl, rfl, grown_trans (grown_R (grown_trans (grown_0 GA.out) G1.out) q1 (Nat.le_refl _)) (gA _), (ST1.out.past q1 (by omega)).kept (gA _),
   (by unfold pV; refine Rel.bind REL1.out ?_; rw [if_neg HK.out.1, if_neg HK.out.2]; exact Rel.pure _ _)⟩
end
/-! ## Rl -/
section
open Go.RowKit
theorem rowT : ET Try.prog 60 67 (.agg #[.int .i64 0, .int .i64 0, .string ⟨#[]⟩]) 3 32 := ⟨Try.underlying60, info_parts (by kernel_rfl), rfl, by decide, by decide⟩
theorem Rel.was_ok {α : Type} {p : Parser α} {s : St} {x : α} {r : List Nat} (h : Rel p s x (.ok r)) : ∃ l, s = .ok l := by
 cases s with
 | error e => exact absurd h.dead (by simp)
 | ok l => exact ⟨l, rfl⟩
theorem Own.lt' {w : World} {base : Nat} {e : TypeId} {size n : Nat} {v : Value} {xs : List Value} (h : w.ownsRow base e size v n xs) : ∀ k, v.ownBlock = some k → k < w.heap.size := fun k hk => Own.lt h k hk
theorem RSt.own {T : TypeId} {L : Nat} {w w' : World} {R : Nat} {s : St} {row : Option Nat} (h : RSt T L w R s) (hg : w.grownBy w' row) (hr : ∀ k, row = some k → R < k) : RSt T L w' R s := by
 cases row with
 | none => exact h.kept hg
 | some k => exact h.past hg (hr k rfl)
theorem wpList_pushH {P : Program} {t e : TypeId} {z : Value} {size bytes : Nat} (E : ET P t e z size bytes) {w : World} {ops : Array Oper} {rest : List Oper} {o : Oper} {a : Act} {Q : Exit → Act → World → Prop}
   (hgd : o.guard = none) (s x : Operand) (ho : o.op = .call { callee := .builtin .append, args := #[s, x], argTypes := #[t, t] })
   (v : Value) (n : Nat) (xs : List Value) (hs : a.eval s = v) (hown : Own w e size v n xs)
   (c : List Value) (m H : Nat) (hH : H = w.heap.size) (hx : a.eval x = .slice (some ⟨H, 0, none⟩) m m) (hl : c.length = m * size) (h1 : c.all Value.oneCell' = true)
   (h63 : n + m ≤ 1099511627776)
   (h : ∀ v' w', Own w' e size v' (n + m) (xs ++ c) → Step w v w' v' → wpList P ops Q rest (a.put o.dst v') w') :
   wpList P ops Q (o :: rest) a (w.alloc (.cells c.toArray e)) := by
 subst hH
 exact wpList_push E hgd s x ho v n xs hs hown c m hx hl h1 h63 h
structure repRow (L : Nat) (w : World) (v : Value) (l : List V) : Prop where
 sl : Sl w 3 v l.length (l.flatMap vcells)
 bd : ∀ k, v.ownBlock = some k → L ≤ k ∧ k < w.heap.size
 len : l.length ≤ 1000000
theorem listV_walk {L : Nat} (R : Nat) (s : St) (most : Int) (w : World) (h : RSt 201 L w R s) (hm : I64 most) (hm2 : most ≤ 1000000) :
   Calls Try.prog 178 #[.pointer (some ⟨R, 0, none⟩), .int .i64 most, .func (.func 119) #[.pointer (some ⟨R, 0, none⟩)] #[]] w (RdPost 201 L w R (pList most pV) s (repRow w.heap.size)) := by
 have hR := h.lt
 have HST := hid h
 clear h
 go_enter Try.func178, Try.ntmps178
 go_wp2_with fail
 refine (intIn_walk R s 0 most _ HST.out).mono ?_
 rintro e w1 ⟨v1, n, s1, rfl, ⟨rfl, hn⟩, hg1, hst1, hrel1⟩
 have REL1 := hid hrel1
 have hin : ∀ r, s1 = .ok r → n ≤ 1000000 := fun r hr => by subst hr; have := (inIn_ok hrel1).2; omega
 have HIN := hid hin
 clear hrel1 hin
 go_wp2
 go_loopw [7, 12] (fun b i wr => ∃ (k : Nat) (xs : List V) (sk : St), k ≤ n.toNat ∧ i = .int .i64 k ∧ xs.length = k ∧ Own wr 67 3 b k (xs.flatMap vcells) ∧ Hi b w.heap.size ∧ w.grownBy wr (some R) ∧ RSt 201 L wr R sk ∧ Rel (pRep pV k) s1 xs sk ∧ (k = 0 ∨ ∃ l, sk = .ok l)) (fun _ i _ => n.toNat - (intOf i).toNat)
 case atStart => exact ⟨0, [], s1, Nat.zero_le _, rfl, rfl, Own.nil _ _ _, fun k hk => by simp [Value.ownBlock] at hk, hg1, hst1, Rel.pure _ _, .inl rfl⟩
 case round =>
   obtain ⟨k, xs, sk, hk, rfl, hxl, hown, hhi, hgk, hstk, hrelk, hk0⟩ := hrel
   have OWN := hid hown
   have HHI := hid hhi
   have GK := hid hgk
   have SK := hid hstk
   have RK := hid hrelk
   have K0 := hid hk0
   clear hown hhi hgk hstk hrelk hk0
   by_cases hlt : (k : Int) < n
   · have hsz := GK.out.size
     go_wp2_with fail
     refine (value_walk R sk wr SK.out).mono ?_
     rintro e w2 ⟨v2, x, s2, rfl, rfl, hg2, hst2, hrel2⟩
     have R2 := hid hrel2
     have G2 := hid hg2
     have S2 := hid hst2
     obtain ⟨rv, er, hrow, hok, hbad⟩ := hst2.row
     obtain ⟨c0, c1, f0, f1⟩ := row2 hrow
     have hr2 := (Array.getElem?_eq_some_iff.1 hrow).1
     unfold vval
     obtain ⟨xk, xn, xt⟩ := x
     clear hg2 hrel2 hst2 hrow
     cases s2 with
     | error ee =>
       obtain ⟨rfl, hne⟩ := hbad ee rfl
       have be : ((ee : Int) != 0) = true := by simp; omega
       clear hok hbad
       go_wp2
       go_ret
       have hs := rep_snoc k RK.out R2.out
       have hs2 : Rel (pRep pV n.toNat) s1 [] (.error ee) := rep_err (by omega) hs
       exact ⟨_, [], .error ee, rfl, ⟨Sl.nil _ _, fun k hk => by simp [Value.ownBlock] at hk, by simp⟩, grown_trans (grown_trans GK.out G2.out) (World.grownBy_alloc _ _ _), S2.out.kept (World.grownBy_alloc _ _ _), REL1.out.bind hs2⟩
     | ok l2 =>
       obtain ⟨rfl, _⟩ := hok l2 rfl
       obtain ⟨lk, hlk⟩ := R2.out.was_ok
       have RK2 := RK.out
       rw [hlk] at RK2
       obtain ⟨l1, hl1⟩ := RK2.was_ok
       have hn2 := HIN.out l1 hl1
       clear hok hbad RK2 hlk hl1
       have hne : (Value.ownBlock u7) ≠ some R := fun e => by have := HHI.out _ e; omega
       have hown2 := OWN.out.kept G2.out (.inr hne)
       have hown3 := hown2.alloc (.cells #[.int .i64 xk, .int .i64 xn, .string xt] 67)
       go_wp2_with (at_builtin; go_must (refine wpList_pushH rowT rfl _ _ rfl _ _ _ rfl hown3 [.int .i64 xk, .int .i64 xn, .string xt] 1 (w2.heap.size + 1) (by simp) rfl rfl rfl (by omega) ?_; intro v3 w3 hown4 hst4))
       go_roundw
       case rel =>
         have hgA := World.grownBy_alloc w2 (.cells #[.int .i64 xk, .int .i64 xn, .string xt] 67) none
         have hg3 : w2.grownBy w3 u7.ownBlock := grown_trans (grown_none hgA) hst4.1
         refine ⟨k + 1, xs ++ [⟨xk, xn, xt⟩], .ok l2, by omega, by go_num, by simp [hxl], by simpa [vcells] using hown4, ?_, ?_, ?_, rep_snoc k RK.out R2.out, .inr ⟨l2, rfl⟩⟩
         · exact (HHI.out.step (Step.grown hgA hst4) (by have := G2.out.size; omega))
         · refine ⟨hg3.os.trans (grown_trans GK.out G2.out).os, hg3.tape.trans (grown_trans GK.out G2.out).tape, hg3.output.trans (grown_trans GK.out G2.out).output, Nat.le_trans (grown_trans GK.out G2.out).size hg3.size, fun i hi hne2 => ?_⟩
           exact (hg3.block i (by have := G2.out.size; omega) (fun e => by have := HHI.out _ e.symm; omega)).trans ((grown_trans GK.out G2.out).block i hi hne2)
         · exact RSt.own S2.out hg3 (fun k hk => by have := HHI.out k hk; omega)
       case measure => simp [intOf]; omega
   · have hkn : k = n.toNat := by omega
     have e1 : decide ((k : Int) < n) = false := decide_eq_false hlt
     have HKN := hid hkn
     clear hkn hlt
     go_wp2
     go_ret
     have hrr := RK.out
     rw [HKN.out] at hrr
     have hlen : k ≤ 1000000 := by
       rcases K0.out with h0 | ⟨l, hl⟩
       · omega
       · have h2 := RK.out
         rw [hl] at h2
         obtain ⟨l1, hl1⟩ := h2.was_ok
         have := HIN.out l1 hl1
         have := HKN.out
         omega
     subst hxl
     exact ⟨_, xs, sk, rfl, ⟨Sl.of_own OWN.out, fun k hk => ⟨HHI.out k hk, Own.lt OWN.out k hk⟩, hlen⟩, GK.out, SK.out, REL1.out.bind hrr⟩
end
/-! ## FR -/
section
open Go.RowKit
structure FR (T : TypeId) (L : Nat) (w W : World) (R : Nat) (B : Nat) (s : St) (TT : TypeId) (Z C : List Value) : Prop where
 lt : R < w.heap.size
 hB : w.heap.size < B
 hg : w.grownBy W (some R)
 st : RSt T L W R s
 b0 : W.heap[w.heap.size]? = some (.cells Z.toArray TT (0, 0))
 b1 : W.heap[B]? = some (.cells C.toArray TT (0, 0))
variable {T : TypeId} {L : Nat} {w W : World} {R B : Nat} {s : St} {TT : TypeId} {Z C : List Value}
theorem FR.start (TT : TypeId) (Z : List Value) (h : RSt T L w R s) : FR T L w ((w.alloc (.cells Z.toArray TT)).alloc (.cells Z.toArray TT)) R (w.heap.size + 1) s TT Z Z := by
 have g1 := World.grownBy_alloc w (.cells Z.toArray TT) none
 have g2 := World.grownBy_alloc (w.alloc (.cells Z.toArray TT)) (.cells Z.toArray TT) none
 exact ⟨h.lt, Nat.lt_succ_self _, grown_none (grown_trans g1 g2), (h.kept g1).kept g2, (heap_past (by simp)).trans (heap_at rfl), heap_at (by simp)⟩
theorem FR.start1 (TT : TypeId) (Z C : List Value) {w1 : World} {s1 : St} (h : R < w.heap.size) (hg : (w.alloc (.cells Z.toArray TT)).grownBy w1 (some R)) (hs : RSt T L w1 R s1) : FR T L w (w1.alloc (.cells C.toArray TT)) R w1.heap.size s1 TT Z C := by
 have g1 := World.grownBy_alloc w (.cells Z.toArray TT) none
 have g2 := World.grownBy_alloc w1 (.cells C.toArray TT) none
 have hsz : w.heap.size < w1.heap.size := by have := hg.size; simp at this; omega
 exact ⟨h, hsz, grown_trans (grown_trans (grown_none g1) hg) (grown_none g2), hs.kept g2, (heap_past hsz).trans (row_of hg (heap_at rfl) (by simp; omega)), heap_at rfl⟩
theorem FR.call (h : FR T L w W R B s TT Z C) {W' : World} {s' : St} (hg : W.grownBy W' (some R)) (hs : RSt T L W' R s') : FR T L w W' R B s' TT Z C :=
 ⟨h.lt, h.hB, grown_trans h.hg hg, hs, row_of hg h.b0 (by have := h.lt; simp; omega), row_of hg h.b1 (by have := h.lt; have := h.hB; simp; omega)⟩
theorem FR.store1 (h : FR T L w W R B s TT Z C) (o : Nat) (v : Value) {C' : List Value} (hC : C.set o v = C') : FR T L w (W.setCell ⟨B, o, none⟩ v) R B s TT Z C' := by
 have g := grown_setCell W ⟨B, o, none⟩ v
 refine ⟨h.lt, h.hB, grown_R h.hg g (Nat.le_of_lt h.hB), h.st.past g (by have := h.lt; have := h.hB; show R < B; omega), row_of g h.b0 (by have := h.hB; simp; omega), ?_⟩
 subst hC
 have := heap_setCell_same W B o _ TT v h.b1
 simpa using this
theorem FR.stores (h : FR T L w W R B s TT Z C) (o : Nat) (vs : List Value) (ho : o + vs.length ≤ C.length) {C' : List Value} (hC : C.take o ++ (vs ++ C.drop (o + vs.length)) = C') : FR T L w (W.setCells B o vs) R B s TT Z C' := by
 have g := setCells_grown B vs o W
 refine ⟨h.lt, h.hB, grown_R h.hg g (Nat.le_of_lt h.hB), h.st.past g (by have := h.lt; have := h.hB; omega), row_of g h.b0 (by have := h.hB; simp; omega), ?_⟩
 subst hC
 exact setCells_mid C o vs h.b1 ho
theorem FR.cell (h : FR T L w W R B s TT Z C) : ∀ j, W.cell? ⟨B, j, none⟩ = C.toArray[j]? := fun j => cell_of_row W _ j _ _ _ h.b1
theorem FR.frozen (h : FR T L w W R B s TT Z C) : ∀ j, W.frozen? ⟨B, j, none⟩ = false := fun j => frozen_of_row W _ j _ _ h.b1
theorem FR.cell0 (h : FR T L w W R B s TT Z C) : ∀ j, W.cell? ⟨w.heap.size, j, none⟩ = Z.toArray[j]? := fun j => cell_of_row W _ j _ _ _ h.b0
theorem FR.frozen0 (h : FR T L w W R B s TT Z C) : ∀ j, W.frozen? ⟨w.heap.size, j, none⟩ = false := fun j => frozen_of_row W _ j _ _ h.b0
theorem FR.fin (h : FR T L w W R B s TT Z C) (hl : Z.length = C.length) : w.grownBy (W.setCells w.heap.size 0 C) (some R) ∧ RSt T L (W.setCells w.heap.size 0 C) R s ∧ (W.setCells w.heap.size 0 C).heap[w.heap.size]? = some (.cells C.toArray TT (0, 0)) := by
 obtain ⟨q1, q2⟩ := setCells_all C h.b0 (by simpa using hl)
 exact ⟨grown_R h.hg q1 (Nat.le_refl _), h.st.past q1 h.lt, q2⟩
theorem FR.size (h : FR T L w W R B s TT Z C) : B + 1 ≤ W.heap.size := (Array.getElem?_eq_some_iff.1 h.b1).1
theorem repRow.down {L L' : Nat} {w : World} {v : Value} {l : List V} (h : repRow L w v l) (hL : L' ≤ L) : repRow L' w v l := ⟨h.1, fun k hk => ⟨Nat.le_trans hL (h.2 k hk).1, (h.2 k hk).2⟩, h.3⟩
theorem repRow.past {L : Nat} {w w' : World} {B : Nat} {v : Value} {l : List V} (h : repRow L w v l) (hg : w.grownBy w' (some B)) (hB : B < L) : repRow L w' v l :=
 ⟨h.1.kept hg (.inr fun e => by have := (h.2 _ e).1; omega), fun k hk => ⟨(h.2 k hk).1, Nat.lt_of_lt_of_le (h.2 k hk).2 hg.size⟩, h.3⟩
def idfcells (i : Idf) : List Value := [.string i.ns, .int .i64 i.val.kind, .int .i64 i.val.int, .string i.val.text]
def vercells (v : Ver) : List Value := [.int .i64 v.table, .int .i64 v.column, .int .i64 v.seq]
def srccells (v : Src) : List Value := [.int .i64 v.table, .int .i64 v.seq]
def lnkcells (l : Lnk) : List Value := idfcells l.a ++ idfcells l.b ++ [.int .i64 l.seq, .bool l.rev]
def hldcells (l : Hld) : List Value := [.int .i64 l.table, .int .i64 l.column] ++ idfcells l.who ++ [.int .i64 l.seq, .int .i64 l.since, .int .i64 l.till]
def reqcells (l : Req) : List Value := [.int .i64 l.kind] ++ idfcells l.who ++ [.int .i64 l.seq, .int .i64 l.day, .int .i64 l.deadline]
def chcells (c : Ch) (r : Value) : List Value := [.int .i64 c.kind, .int .i64 c.seq, .int .i64 c.day, .int .i64 c.table, r] ++ vcells c.key ++ [.int .i64 c.col] ++ vcells c.val
end
/-! ## Rs -/
section
open Go.RowKit
def valVer (x : Ver) : Value := .agg (vercells x).toArray
theorem tyVer (x : Ver) : TY Try.prog 169 (vercells x) (valVer x) := TY.agg Try.underlying169 rfl (by kernel_rfl) (by simp [vercells, Value.oneCell'])
def repVer (_ : World) (v : Value) (x : Ver) : Prop := v = valVer x
theorem version_walk {L : Nat} (R : Nat) (s : St) (w : World) (h : RSt 201 L w R s) :
   Calls Try.prog 172 #[.pointer (some ⟨R, 0, none⟩)] w (RdPost 201 L w R pVer s repVer) := by
 have hR := h.lt
 have F0 := hid (FR.start 169 [Value.int .i64 0, Value.int .i64 0, Value.int .i64 0] h)
 clear h
 go_enter Try.func172, Try.ntmps172
 go_wp2_with fail
 refine (int_walk R s _ F0.out.st).mono ?_
 rintro e w1 ⟨v1, x1, s1, rfl, ⟨rfl, hn⟩, hg, hst, hrel⟩
 have R1 := hid hrel
 have G1 := hid (F0.out.call hg hst)
 have c1 := G1.out.cell
 have f1 := G1.out.frozen
 clear hn
 clear hg hst hrel
 go_wp2_with fail
 have F1 := hid (G1.out.store1 0 (.int .i64 x1) (C' := [.int .i64 x1, .int .i64 0, .int .i64 0]) rfl)
 clear c1 f1
 refine (int_walk R s1 _ F1.out.st).mono ?_
 rintro e w2 ⟨v2, x2, s2, rfl, ⟨rfl, hn⟩, hg, hst, hrel⟩
 have R2 := hid hrel
 have G2 := hid (F1.out.call hg hst)
 have c1 := G2.out.cell
 have f1 := G2.out.frozen
 clear hn
 clear hg hst hrel
 go_wp2_with fail
 have F2 := hid (G2.out.store1 2 (.int .i64 x2) (C' := [.int .i64 x1, .int .i64 0, .int .i64 x2]) rfl)
 clear c1 f1
 refine (int_walk R s2 _ F2.out.st).mono ?_
 rintro e w3 ⟨v3, x3, s3, rfl, ⟨rfl, hn⟩, hg, hst, hrel⟩
 have R3 := hid hrel
 have G3 := hid (F2.out.call hg hst)
 have c1 := G3.out.cell
 have f1 := G3.out.frozen
 have c0 := G3.out.cell0
 have f0 := G3.out.frozen0
 clear hn
 clear hg hst hrel
 go_wp2
 have F3 := hid (G3.out.store1 1 (.int .i64 x3) (C' := [.int .i64 x1, .int .i64 x3, .int .i64 x2]) rfl)
 obtain ⟨q1, q2, q3⟩ := F3.out.fin rfl
 exact ret_cell rfl rfl (tyVer ⟨x1, x3, x2⟩) q3 rfl ⟨_, ⟨x1, x3, x2⟩, s3, rfl, rfl, q1, q2, R1.out.bind (R2.out.bind (R3.out.bind (Rel.pure _ _)))⟩
def valSrc (x : Src) : Value := .agg (srccells x).toArray
theorem tySrc (x : Src) : TY Try.prog 171 (srccells x) (valSrc x) := TY.agg Try.underlying171 rfl (by kernel_rfl) (by simp [srccells, Value.oneCell'])
def repSrc (_ : World) (v : Value) (x : Src) : Prop := v = valSrc x
theorem source_walk {L : Nat} (R : Nat) (s : St) (w : World) (h : RSt 201 L w R s) :
   Calls Try.prog 176 #[.pointer (some ⟨R, 0, none⟩)] w (RdPost 201 L w R pSrc s repSrc) := by
 have hR := h.lt
 have F0 := hid (FR.start 171 [Value.int .i64 0, Value.int .i64 0] h)
 clear h
 go_enter Try.func176, Try.ntmps176
 go_wp2_with fail
 refine (int_walk R s _ F0.out.st).mono ?_
 rintro e w1 ⟨v1, x1, s1, rfl, ⟨rfl, hn⟩, hg, hst, hrel⟩
 have R1 := hid hrel
 have G1 := hid (F0.out.call hg hst)
 have c1 := G1.out.cell
 have f1 := G1.out.frozen
 clear hn
 clear hg hst hrel
 go_wp2_with fail
 have F1 := hid (G1.out.store1 0 (.int .i64 x1) (C' := [.int .i64 x1, .int .i64 0]) rfl)
 clear c1 f1
 refine (int_walk R s1 _ F1.out.st).mono ?_
 rintro e w2 ⟨v2, x2, s2, rfl, ⟨rfl, hn⟩, hg, hst, hrel⟩
 have R2 := hid hrel
 have G2 := hid (F1.out.call hg hst)
 have c1 := G2.out.cell
 have f1 := G2.out.frozen
 have c0 := G2.out.cell0
 have f0 := G2.out.frozen0
 clear hn
 clear hg hst hrel
 go_wp2
 have F2 := hid (G2.out.store1 1 (.int .i64 x2) (C' := [.int .i64 x1, .int .i64 x2]) rfl)
 obtain ⟨q1, q2, q3⟩ := F2.out.fin rfl
 exact ret_cell rfl rfl (tySrc ⟨x1, x2⟩) q3 rfl ⟨_, ⟨x1, x2⟩, s2, rfl, rfl, q1, q2, R1.out.bind (R2.out.bind (Rel.pure _ _))⟩
def valIdf (x : Idf) : Value := .agg (idfcells x).toArray
theorem tyIdf (x : Idf) : TY Try.prog 103 (idfcells x) (valIdf x) := TY.agg Try.underlying103 rfl (by kernel_rfl) (by simp [idfcells, idfcells, Value.oneCell'])
def repIdf (_ : World) (v : Value) (x : Idf) : Prop := v = valIdf x
theorem identifier_walk {L : Nat} (R : Nat) (s : St) (w : World) (h : RSt 201 L w R s) :
   Calls Try.prog 153 #[.pointer (some ⟨R, 0, none⟩)] w (RdPost 201 L w R pIdf s repIdf) := by
 have hR := h.lt
 have F0 := hid (FR.start 103 [Value.string ⟨#[]⟩, Value.int .i64 0, Value.int .i64 0, Value.string ⟨#[]⟩] h)
 clear h
 go_enter Try.func153, Try.ntmps153
 go_wp2_with fail
 refine (text_walk R s 16 _ F0.out.st (by decide)).mono ?_
 rintro e w1 ⟨v1, x1, s1, rfl, ⟨rfl, hn⟩, hg, hst, hrel⟩
 have R1 := hid hrel
 have G1 := hid (F0.out.call hg hst)
 have c1 := G1.out.cell
 have f1 := G1.out.frozen
 clear hn
 clear hg hst hrel
 go_wp2_with fail
 have F1 := hid (G1.out.store1 0 (.string x1) (C' := [.string x1, .int .i64 0, .int .i64 0, .string ⟨#[]⟩]) rfl)
 clear c1 f1
 refine (value_walk R s1 _ F1.out.st).mono ?_
 rintro e w2 ⟨v2, x2, s2, rfl, rfl, hg, hst, hrel⟩
 have R2 := hid hrel
 have G2 := hid (F1.out.call hg hst)
 have c1 := G2.out.cell
 have f1 := G2.out.frozen
 have c0 := G2.out.cell0
 have f0 := G2.out.frozen0
 clear hg hst hrel
 obtain ⟨x2k, x2n, x2t⟩ := x2
 unfold vval
 go_wp2
 have F2 := hid (G2.out.stores 1 [.int .i64 x2k, .int .i64 x2n, .string x2t] (by simp) (C' := [.string x1, .int .i64 x2k, .int .i64 x2n, .string x2t]) rfl)
 obtain ⟨q1, q2, q3⟩ := F2.out.fin rfl
 exact ret_cell rfl rfl (tyIdf ⟨x1, ⟨x2k, x2n, x2t⟩⟩) q3 rfl ⟨_, ⟨x1, ⟨x2k, x2n, x2t⟩⟩, s2, rfl, rfl, q1, q2, R1.out.bind (R2.out.bind (Rel.pure _ _))⟩
end
/-! ## Rl2 -/
section
open Go.RowKit
theorem row_walk {L : Nat} (R : Nat) (s : St) (w : World) (h : RSt 201 L w R s) :
   Calls Try.prog 115 #[.pointer (some ⟨R, 0, none⟩)] w (RdPost 201 L w R pRow s (repRow w.heap.size)) := by
 have hmf : ∀ (fn : Fn) (first cap : Array Value) (w : World), (Instr.makeFunc fn first cap).run Try.prog w = .ok (.func fn first cap) w := fun _ _ _ _ => rfl
 have HST := hid h
 clear h
 go_enter Try.func115, Try.ntmps115
 go_wp2_with fail
 refine (listV_walk R s 16 _ HST.out (by constructor <;> omega) (by omega)).mono ?_
 rintro e w1 ⟨v, x, s1, rfl, hrow, hg, hst, hrel⟩
 have H := hid (And.intro hrow (And.intro hg (And.intro hst hrel)))
 clear hrow hg hst hrel
 go_wp2
 go_ret
 exact ⟨v, x, s1, rfl, H.out.1, H.out.2.1, H.out.2.2.1, H.out.2.2.2⟩
theorem versT : ET Try.prog 42 169 (.agg #[.int .i64 0, .int .i64 0, .int .i64 0]) 3 24 := ⟨Try.underlying42, info_parts (by kernel_rfl), rfl, by decide, by decide⟩
structure repVers (L : Nat) (w : World) (v : Value) (l : List Ver) : Prop where
 sl : Sl w 3 v l.length (l.flatMap vercells)
 bd : ∀ k, v.ownBlock = some k → L ≤ k ∧ k < w.heap.size
 len : l.length ≤ 1000000
theorem listVer_walk {L : Nat} (R : Nat) (s : St) (most : Int) (w : World) (h : RSt 201 L w R s) (hm : I64 most) (hm2 : most ≤ 1000000) :
   Calls Try.prog 171 #[.pointer (some ⟨R, 0, none⟩), .int .i64 most, .func (.func 172) #[.pointer (some ⟨R, 0, none⟩)] #[]] w (RdPost 201 L w R (pList most pVer) s (repVers w.heap.size)) := by
 have hR := h.lt
 have HST := hid h
 clear h
 go_enter Try.func171, Try.ntmps171
 go_wp2_with fail
 refine (intIn_walk R s 0 most _ HST.out).mono ?_
 rintro e w1 ⟨v1, n, s1, rfl, ⟨rfl, hn⟩, hg1, hst1, hrel1⟩
 have REL1 := hid hrel1
 have hin : ∀ r, s1 = .ok r → n ≤ 1000000 := fun r hr => by subst hr; have := (inIn_ok hrel1).2; omega
 have HIN := hid hin
 clear hrel1 hin
 go_wp2
 go_loopw [7, 12] (fun b i wr => ∃ (k : Nat) (xs : List Ver) (sk : St), k ≤ n.toNat ∧ i = .int .i64 k ∧ xs.length = k ∧ Own wr 169 3 b k (xs.flatMap vercells) ∧ Hi b w.heap.size ∧ w.grownBy wr (some R) ∧ RSt 201 L wr R sk ∧ Rel (pRep pVer k) s1 xs sk ∧ (k = 0 ∨ ∃ l, sk = .ok l)) (fun _ i _ => n.toNat - (intOf i).toNat)
 case atStart => exact ⟨0, [], s1, Nat.zero_le _, rfl, rfl, Own.nil _ _ _, fun k hk => by simp [Value.ownBlock] at hk, hg1, hst1, Rel.pure _ _, .inl rfl⟩
 case round =>
   obtain ⟨k, xs, sk, hk, rfl, hxl, hown, hhi, hgk, hstk, hrelk, hk0⟩ := hrel
   have OWN := hid hown
   have HHI := hid hhi
   have GK := hid hgk
   have SK := hid hstk
   have RK := hid hrelk
   have K0 := hid hk0
   clear hown hhi hgk hstk hrelk hk0
   by_cases hlt : (k : Int) < n
   · have hsz := GK.out.size
     go_wp2_with fail
     refine (version_walk R sk wr SK.out).mono ?_
     rintro e w2 ⟨v2, x, s2, rfl, rfl, hg2, hst2, hrel2⟩
     have R2 := hid hrel2
     have G2 := hid hg2
     have S2 := hid hst2
     obtain ⟨rv, er, hrow, hok, hbad⟩ := hst2.row
     obtain ⟨c0, c1, f0, f1⟩ := row2 hrow
     have hr2 := (Array.getElem?_eq_some_iff.1 hrow).1
     unfold valVer vercells
     obtain ⟨xa, xb, xc⟩ := x
     clear hg2 hrel2 hst2 hrow
     cases s2 with
     | error ee =>
       obtain ⟨rfl, hne⟩ := hbad ee rfl
       have be : ((ee : Int) != 0) = true := by simp; omega
       clear hok hbad
       go_wp2
       go_ret
       have hs := rep_snoc k RK.out R2.out
       have hs2 : Rel (pRep pVer n.toNat) s1 [] (.error ee) := rep_err (by omega) hs
       exact ⟨_, [], .error ee, rfl, ⟨Sl.nil _ _, fun k hk => by simp [Value.ownBlock] at hk, by simp⟩, grown_trans (grown_trans GK.out G2.out) (World.grownBy_alloc _ _ _), S2.out.kept (World.grownBy_alloc _ _ _), REL1.out.bind hs2⟩
     | ok l2 =>
       obtain ⟨rfl, _⟩ := hok l2 rfl
       obtain ⟨lk, hlk⟩ := R2.out.was_ok
       have RK2 := RK.out
       rw [hlk] at RK2
       obtain ⟨l1, hl1⟩ := RK2.was_ok
       have hn2 := HIN.out l1 hl1
       clear hok hbad RK2 hlk hl1
       have hne : (Value.ownBlock u7) ≠ some R := fun e => by have := HHI.out _ e; omega
       have hown2 := OWN.out.kept G2.out (.inr hne)
       have hown3 := hown2.alloc (.cells #[.int .i64 xa, .int .i64 xb, .int .i64 xc] 169)
       go_wp2_with (at_builtin; go_must (refine wpList_pushH versT rfl _ _ rfl _ _ _ rfl hown3 [.int .i64 xa, .int .i64 xb, .int .i64 xc] 1 (w2.heap.size + 1) (by simp) rfl rfl rfl (by omega) ?_; intro v3 w3 hown4 hst4))
       go_roundw
       case rel =>
         have hgA := World.grownBy_alloc w2 (.cells #[.int .i64 xa, .int .i64 xb, .int .i64 xc] 169) none
         have hg3 : w2.grownBy w3 u7.ownBlock := grown_trans (grown_none hgA) hst4.1
         refine ⟨k + 1, xs ++ [⟨xa, xb, xc⟩], .ok l2, by omega, by go_num, by simp [hxl], by simpa [vercells] using hown4, ?_, ?_, ?_, rep_snoc k RK.out R2.out, .inr ⟨l2, rfl⟩⟩
         · exact (HHI.out.step (Step.grown hgA hst4) (by have := G2.out.size; omega))
         · refine ⟨hg3.os.trans (grown_trans GK.out G2.out).os, hg3.tape.trans (grown_trans GK.out G2.out).tape, hg3.output.trans (grown_trans GK.out G2.out).output, Nat.le_trans (grown_trans GK.out G2.out).size hg3.size, fun i hi hne2 => ?_⟩
           exact (hg3.block i (by have := G2.out.size; omega) (fun e => by have := HHI.out _ e.symm; omega)).trans ((grown_trans GK.out G2.out).block i hi hne2)
         · exact RSt.own S2.out hg3 (fun k hk => by have := HHI.out k hk; omega)
       case measure => simp [intOf]; omega
   · have hkn : k = n.toNat := by omega
     have e1 : decide ((k : Int) < n) = false := decide_eq_false hlt
     have HKN := hid hkn
     clear hkn hlt
     go_wp2
     go_ret
     have hrr := RK.out
     rw [HKN.out] at hrr
     have hlen : k ≤ 1000000 := by
       rcases K0.out with h0 | ⟨l, hl⟩
       · omega
       · have h2 := RK.out
         rw [hl] at h2
         obtain ⟨l1, hl1⟩ := h2.was_ok
         have := HIN.out l1 hl1
         have := HKN.out
         omega
     subst hxl
     exact ⟨_, xs, sk, rfl, ⟨Sl.of_own OWN.out, fun k hk => ⟨HHI.out k hk, Own.lt OWN.out k hk⟩, hlen⟩, GK.out, SK.out, REL1.out.bind hrr⟩
theorem srcsT : ET Try.prog 43 171 (.agg #[.int .i64 0, .int .i64 0]) 2 16 := ⟨Try.underlying43, info_parts (by kernel_rfl), rfl, by decide, by decide⟩
structure repSrcs (L : Nat) (w : World) (v : Value) (l : List Src) : Prop where
 sl : Sl w 2 v l.length (l.flatMap srccells)
 bd : ∀ k, v.ownBlock = some k → L ≤ k ∧ k < w.heap.size
 len : l.length ≤ 1000000
theorem listSrc_walk {L : Nat} (R : Nat) (s : St) (most : Int) (w : World) (h : RSt 201 L w R s) (hm : I64 most) (hm2 : most ≤ 1000000) :
   Calls Try.prog 175 #[.pointer (some ⟨R, 0, none⟩), .int .i64 most, .func (.func 176) #[.pointer (some ⟨R, 0, none⟩)] #[]] w (RdPost 201 L w R (pList most pSrc) s (repSrcs w.heap.size)) := by
 have hR := h.lt
 have HST := hid h
 clear h
 go_enter Try.func175, Try.ntmps175
 go_wp2_with fail
 refine (intIn_walk R s 0 most _ HST.out).mono ?_
 rintro e w1 ⟨v1, n, s1, rfl, ⟨rfl, hn⟩, hg1, hst1, hrel1⟩
 have REL1 := hid hrel1
 have hin : ∀ r, s1 = .ok r → n ≤ 1000000 := fun r hr => by subst hr; have := (inIn_ok hrel1).2; omega
 have HIN := hid hin
 clear hrel1 hin
 go_wp2
 go_loopw [7, 12] (fun b i wr => ∃ (k : Nat) (xs : List Src) (sk : St), k ≤ n.toNat ∧ i = .int .i64 k ∧ xs.length = k ∧ Own wr 171 2 b k (xs.flatMap srccells) ∧ Hi b w.heap.size ∧ w.grownBy wr (some R) ∧ RSt 201 L wr R sk ∧ Rel (pRep pSrc k) s1 xs sk ∧ (k = 0 ∨ ∃ l, sk = .ok l)) (fun _ i _ => n.toNat - (intOf i).toNat)
 case atStart => exact ⟨0, [], s1, Nat.zero_le _, rfl, rfl, Own.nil _ _ _, fun k hk => by simp [Value.ownBlock] at hk, hg1, hst1, Rel.pure _ _, .inl rfl⟩
 case round =>
   obtain ⟨k, xs, sk, hk, rfl, hxl, hown, hhi, hgk, hstk, hrelk, hk0⟩ := hrel
   have OWN := hid hown
   have HHI := hid hhi
   have GK := hid hgk
   have SK := hid hstk
   have RK := hid hrelk
   have K0 := hid hk0
   clear hown hhi hgk hstk hrelk hk0
   by_cases hlt : (k : Int) < n
   · have hsz := GK.out.size
     go_wp2_with fail
     refine (source_walk R sk wr SK.out).mono ?_
     rintro e w2 ⟨v2, x, s2, rfl, rfl, hg2, hst2, hrel2⟩
     have R2 := hid hrel2
     have G2 := hid hg2
     have S2 := hid hst2
     obtain ⟨rv, er, hrow, hok, hbad⟩ := hst2.row
     obtain ⟨c0, c1, f0, f1⟩ := row2 hrow
     have hr2 := (Array.getElem?_eq_some_iff.1 hrow).1
     unfold valSrc srccells
     obtain ⟨xa, xb⟩ := x
     clear hg2 hrel2 hst2 hrow
     cases s2 with
     | error ee =>
       obtain ⟨rfl, hne⟩ := hbad ee rfl
       have be : ((ee : Int) != 0) = true := by simp; omega
       clear hok hbad
       go_wp2
       go_ret
       have hs := rep_snoc k RK.out R2.out
       have hs2 : Rel (pRep pSrc n.toNat) s1 [] (.error ee) := rep_err (by omega) hs
       exact ⟨_, [], .error ee, rfl, ⟨Sl.nil _ _, fun k hk => by simp [Value.ownBlock] at hk, by simp⟩, grown_trans (grown_trans GK.out G2.out) (World.grownBy_alloc _ _ _), S2.out.kept (World.grownBy_alloc _ _ _), REL1.out.bind hs2⟩
     | ok l2 =>
       obtain ⟨rfl, _⟩ := hok l2 rfl
       obtain ⟨lk, hlk⟩ := R2.out.was_ok
       have RK2 := RK.out
       rw [hlk] at RK2
       obtain ⟨l1, hl1⟩ := RK2.was_ok
       have hn2 := HIN.out l1 hl1
       clear hok hbad RK2 hlk hl1
       have hne : (Value.ownBlock u7) ≠ some R := fun e => by have := HHI.out _ e; omega
       have hown2 := OWN.out.kept G2.out (.inr hne)
       have hown3 := hown2.alloc (.cells #[.int .i64 xa, .int .i64 xb] 171)
       go_wp2_with (at_builtin; go_must (refine wpList_pushH srcsT rfl _ _ rfl _ _ _ rfl hown3 [.int .i64 xa, .int .i64 xb] 1 (w2.heap.size + 1) (by simp) rfl rfl rfl (by omega) ?_; intro v3 w3 hown4 hst4))
       go_roundw
       case rel =>
         have hgA := World.grownBy_alloc w2 (.cells #[.int .i64 xa, .int .i64 xb] 171) none
         have hg3 : w2.grownBy w3 u7.ownBlock := grown_trans (grown_none hgA) hst4.1
         refine ⟨k + 1, xs ++ [⟨xa, xb⟩], .ok l2, by omega, by go_num, by simp [hxl], by simpa [srccells] using hown4, ?_, ?_, ?_, rep_snoc k RK.out R2.out, .inr ⟨l2, rfl⟩⟩
         · exact (HHI.out.step (Step.grown hgA hst4) (by have := G2.out.size; omega))
         · refine ⟨hg3.os.trans (grown_trans GK.out G2.out).os, hg3.tape.trans (grown_trans GK.out G2.out).tape, hg3.output.trans (grown_trans GK.out G2.out).output, Nat.le_trans (grown_trans GK.out G2.out).size hg3.size, fun i hi hne2 => ?_⟩
           exact (hg3.block i (by have := G2.out.size; omega) (fun e => by have := HHI.out _ e.symm; omega)).trans ((grown_trans GK.out G2.out).block i hi hne2)
         · exact RSt.own S2.out hg3 (fun k hk => by have := HHI.out k hk; omega)
       case measure => simp [intOf]; omega
   · have hkn : k = n.toNat := by omega
     have e1 : decide ((k : Int) < n) = false := decide_eq_false hlt
     have HKN := hid hkn
     clear hkn hlt
     go_wp2
     go_ret
     have hrr := RK.out
     rw [HKN.out] at hrr
     have hlen : k ≤ 1000000 := by
       rcases K0.out with h0 | ⟨l, hl⟩
       · omega
       · have h2 := RK.out
         rw [hl] at h2
         obtain ⟨l1, hl1⟩ := h2.was_ok
         have := HIN.out l1 hl1
         have := HKN.out
         omega
     subst hxl
     exact ⟨_, xs, sk, rfl, ⟨Sl.of_own OWN.out, fun k hk => ⟨HHI.out k hk, Own.lt OWN.out k hk⟩, hlen⟩, GK.out, SK.out, REL1.out.bind hrr⟩
theorem versions_walk {L : Nat} (R : Nat) (s : St) (w : World) (h : RSt 201 L w R s) :
   Calls Try.prog 104 #[.pointer (some ⟨R, 0, none⟩)] w (RdPost 201 L w R pVers s (repVers w.heap.size)) := by
 have hmf : ∀ (fn : Fn) (first cap : Array Value) (w : World), (Instr.makeFunc fn first cap).run Try.prog w = .ok (.func fn first cap) w := fun _ _ _ _ => rfl
 have HST := hid h
 clear h
 go_enter Try.func104, Try.ntmps104
 go_wp2_with fail
 refine (listVer_walk R s 512 _ HST.out (by constructor <;> omega) (by omega)).mono ?_
 rintro e w1 ⟨v, x, s1, rfl, hrow, hg, hst, hrel⟩
 have H := hid (And.intro hrow (And.intro hg (And.intro hst hrel)))
 clear hrow hg hst hrel
 go_wp2
 go_ret
 exact ⟨v, x, s1, rfl, H.out.1, H.out.2.1, H.out.2.2.1, H.out.2.2.2⟩
theorem sources_walk {L : Nat} (R : Nat) (s : St) (w : World) (h : RSt 201 L w R s) :
   Calls Try.prog 108 #[.pointer (some ⟨R, 0, none⟩)] w (RdPost 201 L w R pSrcs s (repSrcs w.heap.size)) := by
 have hmf : ∀ (fn : Fn) (first cap : Array Value) (w : World), (Instr.makeFunc fn first cap).run Try.prog w = .ok (.func fn first cap) w := fun _ _ _ _ => rfl
 have HST := hid h
 clear h
 go_enter Try.func108, Try.ntmps108
 go_wp2_with fail
 refine (listSrc_walk R s 512 _ HST.out (by constructor <;> omega) (by omega)).mono ?_
 rintro e w1 ⟨v, x, s1, rfl, hrow, hg, hst, hrel⟩
 have H := hid (And.intro hrow (And.intro hg (And.intro hst hrel)))
 clear hrow hg hst hrel
 go_wp2
 go_ret
 exact ⟨v, x, s1, rfl, H.out.1, H.out.2.1, H.out.2.2.1, H.out.2.2.2⟩
end
/-! ## Rs2 -/
section
open Go.RowKit
def valLnk (x : Lnk) : Value := .agg (lnkcells x).toArray
theorem tyLnk (x : Lnk) : TY Try.prog 107 (lnkcells x) (valLnk x) := TY.agg Try.underlying107 rfl (by kernel_rfl) (by simp [lnkcells, idfcells, Value.oneCell'])
def repLnk (_ : World) (v : Value) (x : Lnk) : Prop := v = valLnk x
theorem link_walk {L : Nat} (R : Nat) (s : St) (w : World) (h : RSt 201 L w R s) :
   Calls Try.prog 149 #[.pointer (some ⟨R, 0, none⟩)] w (RdPost 201 L w R pLnk s repLnk) := by
 have hR := h.lt
 have F0 := hid (FR.start 107 [Value.string ⟨#[]⟩, Value.int .i64 0, Value.int .i64 0, Value.string ⟨#[]⟩, Value.string ⟨#[]⟩, Value.int .i64 0, Value.int .i64 0, Value.string ⟨#[]⟩, Value.int .i64 0, Value.bool false] h)
 clear h
 go_enter Try.func149, Try.ntmps149
 go_wp2_with fail
 refine (identifier_walk R s _ F0.out.st).mono ?_
 rintro e w1 ⟨v1, x1, s1, rfl, rfl, hg, hst, hrel⟩
 have R1 := hid hrel
 have G1 := hid (F0.out.call hg hst)
 have c1 := G1.out.cell
 have f1 := G1.out.frozen
 clear hg hst hrel
 obtain ⟨x1s, x1k, x1n, x1t⟩ := x1
 unfold valIdf idfcells
 go_wp2_with fail
 have F1 := hid (G1.out.stores 0 [.string x1s, .int .i64 x1k, .int .i64 x1n, .string x1t] (by simp) (C' := [.string x1s, .int .i64 x1k, .int .i64 x1n, .string x1t, .string ⟨#[]⟩, .int .i64 0, .int .i64 0, .string ⟨#[]⟩, .int .i64 0, .bool false]) rfl)
 clear c1 f1
 refine (identifier_walk R s1 _ F1.out.st).mono ?_
 rintro e w2 ⟨v2, x2, s2, rfl, rfl, hg, hst, hrel⟩
 have R2 := hid hrel
 have G2 := hid (F1.out.call hg hst)
 have c1 := G2.out.cell
 have f1 := G2.out.frozen
 clear hg hst hrel
 obtain ⟨x2s, x2k, x2n, x2t⟩ := x2
 unfold valIdf idfcells
 go_wp2_with fail
 have F2 := hid (G2.out.stores 4 [.string x2s, .int .i64 x2k, .int .i64 x2n, .string x2t] (by simp) (C' := [.string x1s, .int .i64 x1k, .int .i64 x1n, .string x1t, .string x2s, .int .i64 x2k, .int .i64 x2n, .string x2t, .int .i64 0, .bool false]) rfl)
 clear c1 f1
 refine (int_walk R s2 _ F2.out.st).mono ?_
 rintro e w3 ⟨v3, x3, s3, rfl, ⟨rfl, hn⟩, hg, hst, hrel⟩
 have R3 := hid hrel
 have G3 := hid (F2.out.call hg hst)
 have c1 := G3.out.cell
 have f1 := G3.out.frozen
 clear hn
 clear hg hst hrel
 go_wp2_with fail
 have F3 := hid (G3.out.store1 8 (.int .i64 x3) (C' := [.string x1s, .int .i64 x1k, .int .i64 x1n, .string x1t, .string x2s, .int .i64 x2k, .int .i64 x2n, .string x2t, .int .i64 x3, .bool false]) rfl)
 clear c1 f1
 refine (intIn_walk R s3 0 1 _ F3.out.st).mono ?_
 rintro e w4 ⟨v4, x4, s4, rfl, ⟨rfl, hn⟩, hg, hst, hrel⟩
 have R4 := hid hrel
 have G4 := hid (F3.out.call hg hst)
 have c1 := G4.out.cell
 have f1 := G4.out.frozen
 have c0 := G4.out.cell0
 have f0 := G4.out.frozen0
 clear hn
 clear hg hst hrel
 go_wp2
 have F4 := hid (G4.out.store1 9 (.bool (x4 == 1)) (C' := [.string x1s, .int .i64 x1k, .int .i64 x1n, .string x1t, .string x2s, .int .i64 x2k, .int .i64 x2n, .string x2t, .int .i64 x3, .bool (x4 == 1)]) rfl)
 obtain ⟨q1, q2, q3⟩ := F4.out.fin rfl
 exact ret_cell rfl rfl (tyLnk ⟨⟨x1s, ⟨x1k, x1n, x1t⟩⟩, ⟨x2s, ⟨x2k, x2n, x2t⟩⟩, x3, x4 == 1⟩) q3 rfl ⟨_, ⟨⟨x1s, ⟨x1k, x1n, x1t⟩⟩, ⟨x2s, ⟨x2k, x2n, x2t⟩⟩, x3, x4 == 1⟩, s4, rfl, rfl, q1, q2, R1.out.bind (R2.out.bind (R3.out.bind (R4.out.bind (Rel.pure _ _))))⟩
def valHld (x : Hld) : Value := .agg (hldcells x).toArray
theorem tyHld (x : Hld) : TY Try.prog 109 (hldcells x) (valHld x) := TY.agg Try.underlying109 rfl (by kernel_rfl) (by simp [hldcells, idfcells, Value.oneCell'])
def repHld (_ : World) (v : Value) (x : Hld) : Prop := v = valHld x
theorem hold_walk {L : Nat} (R : Nat) (s : St) (w : World) (h : RSt 201 L w R s) :
   Calls Try.prog 151 #[.pointer (some ⟨R, 0, none⟩)] w (RdPost 201 L w R pHld s repHld) := by
 have hR := h.lt
 have F0 := hid (FR.start 109 [Value.int .i64 0, Value.int .i64 0, Value.string ⟨#[]⟩, Value.int .i64 0, Value.int .i64 0, Value.string ⟨#[]⟩, Value.int .i64 0, Value.int .i64 0, Value.int .i64 0] h)
 clear h
 go_enter Try.func151, Try.ntmps151
 go_wp2_with fail
 refine (int_walk R s _ F0.out.st).mono ?_
 rintro e w1 ⟨v1, x1, s1, rfl, ⟨rfl, hn⟩, hg, hst, hrel⟩
 have R1 := hid hrel
 have G1 := hid (F0.out.call hg hst)
 have c1 := G1.out.cell
 have f1 := G1.out.frozen
 clear hn
 clear hg hst hrel
 go_wp2_with fail
 have F1 := hid (G1.out.store1 0 (.int .i64 x1) (C' := [.int .i64 x1, .int .i64 0, .string ⟨#[]⟩, .int .i64 0, .int .i64 0, .string ⟨#[]⟩, .int .i64 0, .int .i64 0, .int .i64 0]) rfl)
 clear c1 f1
 refine (int_walk R s1 _ F1.out.st).mono ?_
 rintro e w2 ⟨v2, x2, s2, rfl, ⟨rfl, hn⟩, hg, hst, hrel⟩
 have R2 := hid hrel
 have G2 := hid (F1.out.call hg hst)
 have c1 := G2.out.cell
 have f1 := G2.out.frozen
 clear hn
 clear hg hst hrel
 go_wp2_with fail
 have F2 := hid (G2.out.store1 1 (.int .i64 x2) (C' := [.int .i64 x1, .int .i64 x2, .string ⟨#[]⟩, .int .i64 0, .int .i64 0, .string ⟨#[]⟩, .int .i64 0, .int .i64 0, .int .i64 0]) rfl)
 clear c1 f1
 refine (identifier_walk R s2 _ F2.out.st).mono ?_
 rintro e w3 ⟨v3, x3, s3, rfl, rfl, hg, hst, hrel⟩
 have R3 := hid hrel
 have G3 := hid (F2.out.call hg hst)
 have c1 := G3.out.cell
 have f1 := G3.out.frozen
 clear hg hst hrel
 obtain ⟨x3s, x3k, x3n, x3t⟩ := x3
 unfold valIdf idfcells
 go_wp2_with fail
 have F3 := hid (G3.out.stores 2 [.string x3s, .int .i64 x3k, .int .i64 x3n, .string x3t] (by simp) (C' := [.int .i64 x1, .int .i64 x2, .string x3s, .int .i64 x3k, .int .i64 x3n, .string x3t, .int .i64 0, .int .i64 0, .int .i64 0]) rfl)
 clear c1 f1
 refine (int_walk R s3 _ F3.out.st).mono ?_
 rintro e w4 ⟨v4, x4, s4, rfl, ⟨rfl, hn⟩, hg, hst, hrel⟩
 have R4 := hid hrel
 have G4 := hid (F3.out.call hg hst)
 have c1 := G4.out.cell
 have f1 := G4.out.frozen
 clear hn
 clear hg hst hrel
 go_wp2_with fail
 have F4 := hid (G4.out.store1 6 (.int .i64 x4) (C' := [.int .i64 x1, .int .i64 x2, .string x3s, .int .i64 x3k, .int .i64 x3n, .string x3t, .int .i64 x4, .int .i64 0, .int .i64 0]) rfl)
 clear c1 f1
 refine (int_walk R s4 _ F4.out.st).mono ?_
 rintro e w5 ⟨v5, x5, s5, rfl, ⟨rfl, hn⟩, hg, hst, hrel⟩
 have R5 := hid hrel
 have G5 := hid (F4.out.call hg hst)
 have c1 := G5.out.cell
 have f1 := G5.out.frozen
 clear hn
 clear hg hst hrel
 go_wp2_with fail
 have F5 := hid (G5.out.store1 7 (.int .i64 x5) (C' := [.int .i64 x1, .int .i64 x2, .string x3s, .int .i64 x3k, .int .i64 x3n, .string x3t, .int .i64 x4, .int .i64 x5, .int .i64 0]) rfl)
 clear c1 f1
 refine (int_walk R s5 _ F5.out.st).mono ?_
 rintro e w6 ⟨v6, x6, s6, rfl, ⟨rfl, hn⟩, hg, hst, hrel⟩
 have R6 := hid hrel
 have G6 := hid (F5.out.call hg hst)
 have c1 := G6.out.cell
 have f1 := G6.out.frozen
 have c0 := G6.out.cell0
 have f0 := G6.out.frozen0
 clear hn
 clear hg hst hrel
 go_wp2
 have F6 := hid (G6.out.store1 8 (.int .i64 x6) (C' := [.int .i64 x1, .int .i64 x2, .string x3s, .int .i64 x3k, .int .i64 x3n, .string x3t, .int .i64 x4, .int .i64 x5, .int .i64 x6]) rfl)
 obtain ⟨q1, q2, q3⟩ := F6.out.fin rfl
 exact ret_cell rfl rfl (tyHld ⟨x1, x2, ⟨x3s, ⟨x3k, x3n, x3t⟩⟩, x4, x5, x6⟩) q3 rfl ⟨_, ⟨x1, x2, ⟨x3s, ⟨x3k, x3n, x3t⟩⟩, x4, x5, x6⟩, s6, rfl, rfl, q1, q2, R1.out.bind (R2.out.bind (R3.out.bind (R4.out.bind (R5.out.bind (R6.out.bind (Rel.pure _ _))))))⟩
def valReq (x : Req) : Value := .agg (reqcells x).toArray
theorem tyReq (x : Req) : TY Try.prog 105 (reqcells x) (valReq x) := TY.agg Try.underlying105 rfl (by kernel_rfl) (by simp [reqcells, idfcells, Value.oneCell'])
def repReq (_ : World) (v : Value) (x : Req) : Prop := v = valReq x
theorem request_walk {L : Nat} (R : Nat) (s : St) (w : World) (h : RSt 201 L w R s) :
   Calls Try.prog 147 #[.pointer (some ⟨R, 0, none⟩)] w (RdPost 201 L w R pReq s repReq) := by
 have hR := h.lt
 have F0 := hid (FR.start 105 [Value.int .i64 0, Value.string ⟨#[]⟩, Value.int .i64 0, Value.int .i64 0, Value.string ⟨#[]⟩, Value.int .i64 0, Value.int .i64 0, Value.int .i64 0] h)
 clear h
 go_enter Try.func147, Try.ntmps147
 go_wp2_with fail
 refine (int_walk R s _ F0.out.st).mono ?_
 rintro e w1 ⟨v1, x1, s1, rfl, ⟨rfl, hn⟩, hg, hst, hrel⟩
 have R1 := hid hrel
 have G1 := hid (F0.out.call hg hst)
 have c1 := G1.out.cell
 have f1 := G1.out.frozen
 clear hn
 clear hg hst hrel
 go_wp2_with fail
 have F1 := hid (G1.out.store1 0 (.int .i64 x1) (C' := [.int .i64 x1, .string ⟨#[]⟩, .int .i64 0, .int .i64 0, .string ⟨#[]⟩, .int .i64 0, .int .i64 0, .int .i64 0]) rfl)
 clear c1 f1
 refine (identifier_walk R s1 _ F1.out.st).mono ?_
 rintro e w2 ⟨v2, x2, s2, rfl, rfl, hg, hst, hrel⟩
 have R2 := hid hrel
 have G2 := hid (F1.out.call hg hst)
 have c1 := G2.out.cell
 have f1 := G2.out.frozen
 clear hg hst hrel
 obtain ⟨x2s, x2k, x2n, x2t⟩ := x2
 unfold valIdf idfcells
 go_wp2_with fail
 have F2 := hid (G2.out.stores 1 [.string x2s, .int .i64 x2k, .int .i64 x2n, .string x2t] (by simp) (C' := [.int .i64 x1, .string x2s, .int .i64 x2k, .int .i64 x2n, .string x2t, .int .i64 0, .int .i64 0, .int .i64 0]) rfl)
 clear c1 f1
 refine (int_walk R s2 _ F2.out.st).mono ?_
 rintro e w3 ⟨v3, x3, s3, rfl, ⟨rfl, hn⟩, hg, hst, hrel⟩
 have R3 := hid hrel
 have G3 := hid (F2.out.call hg hst)
 have c1 := G3.out.cell
 have f1 := G3.out.frozen
 clear hn
 clear hg hst hrel
 go_wp2_with fail
 have F3 := hid (G3.out.store1 5 (.int .i64 x3) (C' := [.int .i64 x1, .string x2s, .int .i64 x2k, .int .i64 x2n, .string x2t, .int .i64 x3, .int .i64 0, .int .i64 0]) rfl)
 clear c1 f1
 refine (int_walk R s3 _ F3.out.st).mono ?_
 rintro e w4 ⟨v4, x4, s4, rfl, ⟨rfl, hn⟩, hg, hst, hrel⟩
 have R4 := hid hrel
 have G4 := hid (F3.out.call hg hst)
 have c1 := G4.out.cell
 have f1 := G4.out.frozen
 clear hn
 clear hg hst hrel
 go_wp2_with fail
 have F4 := hid (G4.out.store1 6 (.int .i64 x4) (C' := [.int .i64 x1, .string x2s, .int .i64 x2k, .int .i64 x2n, .string x2t, .int .i64 x3, .int .i64 x4, .int .i64 0]) rfl)
 clear c1 f1
 refine (int_walk R s4 _ F4.out.st).mono ?_
 rintro e w5 ⟨v5, x5, s5, rfl, ⟨rfl, hn⟩, hg, hst, hrel⟩
 have R5 := hid hrel
 have G5 := hid (F4.out.call hg hst)
 have c1 := G5.out.cell
 have f1 := G5.out.frozen
 have c0 := G5.out.cell0
 have f0 := G5.out.frozen0
 clear hn
 clear hg hst hrel
 go_wp2
 have F5 := hid (G5.out.store1 7 (.int .i64 x5) (C' := [.int .i64 x1, .string x2s, .int .i64 x2k, .int .i64 x2n, .string x2t, .int .i64 x3, .int .i64 x4, .int .i64 x5]) rfl)
 obtain ⟨q1, q2, q3⟩ := F5.out.fin rfl
 exact ret_cell rfl rfl (tyReq ⟨x1, ⟨x2s, ⟨x2k, x2n, x2t⟩⟩, x3, x4, x5⟩) q3 rfl ⟨_, ⟨x1, ⟨x2s, ⟨x2k, x2n, x2t⟩⟩, x3, x4, x5⟩, s5, rfl, rfl, q1, q2, R1.out.bind (R2.out.bind (R3.out.bind (R4.out.bind (R5.out.bind (Rel.pure _ _)))))⟩
theorem oneCell_sl {w : World} {sz n : Nat} {v : Value} {xs : List Value} (h : Sl w sz v n xs) : v.oneCell' = true := by
 obtain ⟨_, ao, cap, rfl, _⟩ := h
 rfl
def valCh (x : Ch) (r : Value) : Value := .agg (chcells x r).toArray
theorem tyCh (x : Ch) (r : Value) (hr : r.oneCell' = true) : TY Try.prog 86 (chcells x r) (valCh x r) := TY.agg Try.underlying86 rfl (by kernel_rfl) (by intro c hc; simp only [chcells, vcells, List.cons_append, List.nil_append, List.mem_cons, List.not_mem_nil, or_false] at hc; rcases hc with rfl | rfl | rfl | rfl | rfl | rfl | rfl | rfl | rfl | rfl | rfl | rfl <;> first | rfl | exact hr)
def repCh (L : Nat) (w : World) (v : Value) (x : Ch) : Prop := ∃ r, v = valCh x r ∧ repRow L w r x.row
theorem change_walk {L : Nat} (R : Nat) (s : St) (w : World) (h : RSt 201 L w R s) :
   Calls Try.prog 130 #[.pointer (some ⟨R, 0, none⟩)] w (RdPost 201 L w R pCh s (repCh w.heap.size)) := by
 have hR := h.lt
 have F0 := hid (FR.start 86 [Value.int .i64 0, Value.int .i64 0, Value.int .i64 0, Value.int .i64 0, Value.slice none 0 0, Value.int .i64 0, Value.int .i64 0, Value.string ⟨#[]⟩, Value.int .i64 0, Value.int .i64 0, Value.int .i64 0, Value.string ⟨#[]⟩] h)
 clear h
 go_enter Try.func130, Try.ntmps130
 go_wp2_with fail
 refine (int_walk R s _ F0.out.st).mono ?_
 rintro e w1 ⟨v1, x1, s1, rfl, ⟨rfl, hn⟩, hg, hst, hrel⟩
 have R1 := hid hrel
 have G1 := hid (F0.out.call hg hst)
 have c1 := G1.out.cell
 have f1 := G1.out.frozen
 clear hn
 clear hg hst hrel
 go_wp2_with fail
 have F1 := hid (G1.out.store1 0 (.int .i64 x1) (C' := [.int .i64 x1, .int .i64 0, .int .i64 0, .int .i64 0, .slice none 0 0, .int .i64 0, .int .i64 0, .string ⟨#[]⟩, .int .i64 0, .int .i64 0, .int .i64 0, .string ⟨#[]⟩]) rfl)
 clear c1 f1
 refine (int_walk R s1 _ F1.out.st).mono ?_
 rintro e w2 ⟨v2, x2, s2, rfl, ⟨rfl, hn⟩, hg, hst, hrel⟩
 have R2 := hid hrel
 have G2 := hid (F1.out.call hg hst)
 have c1 := G2.out.cell
 have f1 := G2.out.frozen
 clear hn
 clear hg hst hrel
 go_wp2_with fail
 have F2 := hid (G2.out.store1 1 (.int .i64 x2) (C' := [.int .i64 x1, .int .i64 x2, .int .i64 0, .int .i64 0, .slice none 0 0, .int .i64 0, .int .i64 0, .string ⟨#[]⟩, .int .i64 0, .int .i64 0, .int .i64 0, .string ⟨#[]⟩]) rfl)
 clear c1 f1
 refine (int_walk R s2 _ F2.out.st).mono ?_
 rintro e w3 ⟨v3, x3, s3, rfl, ⟨rfl, hn⟩, hg, hst, hrel⟩
 have R3 := hid hrel
 have G3 := hid (F2.out.call hg hst)
 have c1 := G3.out.cell
 have f1 := G3.out.frozen
 clear hn
 clear hg hst hrel
 go_wp2_with fail
 have F3 := hid (G3.out.store1 2 (.int .i64 x3) (C' := [.int .i64 x1, .int .i64 x2, .int .i64 x3, .int .i64 0, .slice none 0 0, .int .i64 0, .int .i64 0, .string ⟨#[]⟩, .int .i64 0, .int .i64 0, .int .i64 0, .string ⟨#[]⟩]) rfl)
 clear c1 f1
 refine (int_walk R s3 _ F3.out.st).mono ?_
 rintro e w4 ⟨v4, x4, s4, rfl, ⟨rfl, hn⟩, hg, hst, hrel⟩
 have R4 := hid hrel
 have G4 := hid (F3.out.call hg hst)
 have c1 := G4.out.cell
 have f1 := G4.out.frozen
 clear hn
 clear hg hst hrel
 go_wp2_with fail
 have F4 := hid (G4.out.store1 3 (.int .i64 x4) (C' := [.int .i64 x1, .int .i64 x2, .int .i64 x3, .int .i64 x4, .slice none 0 0, .int .i64 0, .int .i64 0, .string ⟨#[]⟩, .int .i64 0, .int .i64 0, .int .i64 0, .string ⟨#[]⟩]) rfl)
 clear c1 f1
 refine (row_walk R s4 _ F4.out.st).mono ?_
 rintro e w5 ⟨v5, x5, s5, rfl, hrow, hg, hst, hrel⟩
 have RR5 := hid (hrow.down (L' := w.heap.size + 2) (by have := F4.out.size; omega))
 obtain ⟨ao, cap, rfl, _, _⟩ := hrow.1.shape
 clear hrow
 have R5 := hid hrel
 have G5 := hid (F4.out.call hg hst)
 have c1 := G5.out.cell
 have f1 := G5.out.frozen
 clear hg hst hrel
 go_wp2_with fail
 have F5 := hid (G5.out.store1 4 (.slice ao x5.length cap) (C' := [.int .i64 x1, .int .i64 x2, .int .i64 x3, .int .i64 x4, .slice ao x5.length cap, .int .i64 0, .int .i64 0, .string ⟨#[]⟩, .int .i64 0, .int .i64 0, .int .i64 0, .string ⟨#[]⟩]) rfl)
 have RR5S := hid (RR5.out.past (grown_setCell w5 ⟨w.heap.size + 1, 4, none⟩ (.slice ao x5.length cap)) (by show w.heap.size + 1 < _; omega))
 clear c1 f1
 refine (value_walk R s5 _ F5.out.st).mono ?_
 rintro e w6 ⟨v6, x6, s6, rfl, rfl, hg, hst, hrel⟩
 have RR6 := hid (RR5S.out.past hg (by omega))
 have R6 := hid hrel
 have G6 := hid (F5.out.call hg hst)
 have c1 := G6.out.cell
 have f1 := G6.out.frozen
 clear hg hst hrel
 obtain ⟨x6k, x6n, x6t⟩ := x6
 unfold vval
 go_wp2_with fail
 have F6 := hid (G6.out.stores 5 [.int .i64 x6k, .int .i64 x6n, .string x6t] (by simp) (C' := [.int .i64 x1, .int .i64 x2, .int .i64 x3, .int .i64 x4, .slice ao x5.length cap, .int .i64 x6k, .int .i64 x6n, .string x6t, .int .i64 0, .int .i64 0, .int .i64 0, .string ⟨#[]⟩]) rfl)
 have RR6S := hid (RR6.out.past (setCells_grown (w.heap.size + 1) [.int .i64 x6k, .int .i64 x6n, .string x6t] 5 w6) (by show w.heap.size + 1 < _; omega))
 clear c1 f1
 refine (int_walk R s6 _ F6.out.st).mono ?_
 rintro e w7 ⟨v7, x7, s7, rfl, ⟨rfl, hn⟩, hg, hst, hrel⟩
 have RR7 := hid (RR6S.out.past hg (by omega))
 have R7 := hid hrel
 have G7 := hid (F6.out.call hg hst)
 have c1 := G7.out.cell
 have f1 := G7.out.frozen
 clear hn
 clear hg hst hrel
 go_wp2_with fail
 have F7 := hid (G7.out.store1 8 (.int .i64 x7) (C' := [.int .i64 x1, .int .i64 x2, .int .i64 x3, .int .i64 x4, .slice ao x5.length cap, .int .i64 x6k, .int .i64 x6n, .string x6t, .int .i64 x7, .int .i64 0, .int .i64 0, .string ⟨#[]⟩]) rfl)
 have RR7S := hid (RR7.out.past (grown_setCell w7 ⟨w.heap.size + 1, 8, none⟩ (.int .i64 x7)) (by show w.heap.size + 1 < _; omega))
 clear c1 f1
 refine (value_walk R s7 _ F7.out.st).mono ?_
 rintro e w8 ⟨v8, x8, s8, rfl, rfl, hg, hst, hrel⟩
 have RR8 := hid (RR7S.out.past hg (by omega))
 have R8 := hid hrel
 have G8 := hid (F7.out.call hg hst)
 have c1 := G8.out.cell
 have f1 := G8.out.frozen
 have c0 := G8.out.cell0
 have f0 := G8.out.frozen0
 clear hg hst hrel
 obtain ⟨x8k, x8n, x8t⟩ := x8
 unfold vval
 go_wp2
 have F8 := hid (G8.out.stores 9 [.int .i64 x8k, .int .i64 x8n, .string x8t] (by simp) (C' := [.int .i64 x1, .int .i64 x2, .int .i64 x3, .int .i64 x4, .slice ao x5.length cap, .int .i64 x6k, .int .i64 x6n, .string x6t, .int .i64 x7, .int .i64 x8k, .int .i64 x8n, .string x8t]) rfl)
 have RR8S := hid (RR8.out.past (setCells_grown (w.heap.size + 1) [.int .i64 x8k, .int .i64 x8n, .string x8t] 9 w8) (by show w.heap.size + 1 < _; omega))
 obtain ⟨q1, q2, q3⟩ := F8.out.fin rfl
 exact ret_cell rfl rfl (tyCh ⟨x1, x2, x3, x4, x5, ⟨x6k, x6n, x6t⟩, x7, ⟨x8k, x8n, x8t⟩⟩ (.slice ao x5.length cap) (oneCell_sl RR8S.out.1)) q3 rfl ⟨_, ⟨x1, x2, x3, x4, x5, ⟨x6k, x6n, x6t⟩, x7, ⟨x8k, x8n, x8t⟩⟩, s8, rfl, ⟨.slice ao x5.length cap, rfl, (RR8S.out.past (setCells_grown w.heap.size [.int .i64 x1, .int .i64 x2, .int .i64 x3, .int .i64 x4, .slice ao x5.length cap, .int .i64 x6k, .int .i64 x6n, .string x6t, .int .i64 x7, .int .i64 x8k, .int .i64 x8n, .string x8t] 0 _) (by omega)).down (by omega)⟩, q1, q2, R1.out.bind (R2.out.bind (R3.out.bind (R4.out.bind (R5.out.bind (R6.out.bind (R7.out.bind (R8.out.bind (Rel.pure _ _))))))))⟩
end
/-! ## Rs3 -/
section
open Go.RowKit
theorem tyEn (p : Value × En) (h : p.1.oneCell' = true) : TY Try.prog 78 (ecells p) (.agg (ecells p).toArray) := TY.agg Try.underlying78 rfl (by kernel_rfl) (by simp only [ecells, List.mem_cons, List.not_mem_nil, or_false]; rintro c (rfl | rfl) <;> first | rfl | exact h)
theorem repRow.past2 {L : Nat} {w w' : World} {B : Nat} {v : Value} {l : List V} (h : repRow L w v l) (hg : w.grownBy w' (some B)) (hB : v.ownBlock ≠ some B) : repRow L w' v l :=
 ⟨h.1.kept hg (.inr hB), fun k hk => ⟨(h.2 k hk).1, Nat.lt_of_lt_of_le (h.2 k hk).2 hg.size⟩, h.3⟩
theorem repRow.grow {L : Nat} {w w' : World} {v : Value} {l : List V} (h : repRow L w v l) (hg : w.grownBy w' none) : repRow L w' v l :=
 ⟨h.1.kept hg (by cases v.ownBlock <;> simp), fun k hk => ⟨(h.2 k hk).1, Nat.lt_of_lt_of_le (h.2 k hk).2 hg.size⟩, h.3⟩
theorem repRow.ne {L : Nat} {w : World} {v : Value} {l : List V} (h : repRow L w v l) : v.ownBlock ≠ some w.heap.size := fun e => absurd (h.2 _ e).2 (by omega)
def repEn (L : Nat) (w : World) (v : Value) (x : En) : Prop := ∃ r, v = .agg (ecells (r, x)).toArray ∧ repRow L w r x.row
theorem entry_walk {L : Nat} (R : Nat) (s : St) (w : World) (h : RSt 201 L w R s) :
   Calls Try.prog 183 #[.pointer (some ⟨R, 0, none⟩)] w (RdPost 201 L w R pEn s (repEn w.heap.size)) := by
 have hR := h.lt
 have F0 := hid (h.kept (World.grownBy_alloc w (.cells #[.slice none 0 0, .int .i64 0] 78) none))
 clear h
 go_enter Try.func183, Try.ntmps183
 go_wp2_with fail
 refine (row_walk R s _ F0.out).mono ?_
 rintro e w1 ⟨v1, x1, s1, rfl, hrow, hg, hst, hrel⟩
 obtain ⟨ao, cap, rfl, _, _⟩ := hrow.1.shape
 have G1 := hid (FR.start1 78 [.slice none 0 0, .int .i64 0] [.slice ao x1.length cap, .int .i64 0] hR hg hst)
 have hs0 : w.heap.size + 1 ≤ w1.heap.size := by have := hg.size; simpa using this
 have hrow1 : repRow (w.heap.size + 1) w1 (.slice ao x1.length cap) x1 := hrow.down (by simp)
 have NE := hid hrow1.ne
 have RR1 := hid hrow1
 have R1 := hid hrel
 clear hrow hg hst hrel hrow1
 go_wp2_with fail
 refine (int_walk R s1 _ G1.out.st).mono ?_
 rintro e w2 ⟨v2, x2, s2, rfl, ⟨rfl, hn⟩, hg, hst, hrel⟩
 have G2 := hid (G1.out.call hg hst)
 have R2 := hid hrel
 have HG := hid hg
 have c1 := G2.out.cell
 have f1 := G2.out.frozen
 have c0 := G2.out.cell0
 have f0 := G2.out.frozen0
 clear hn hg hst hrel
 go_wp2
 have F2 := hid (G2.out.store1 1 (.int .i64 x2) (C' := [.slice ao x1.length cap, .int .i64 x2]) rfl)
 obtain ⟨q1, q2, q3⟩ := F2.out.fin rfl
 have RRa := (RR1.out.grow (World.grownBy_alloc w1 (.cells #[.slice ao x1.length cap, .int .i64 0] 78) none)).past HG.out (by omega)
 have RRb := RRa.past2 (grown_setCell w2 ⟨w1.heap.size, 1, none⟩ (.int .i64 x2)) NE.out
 have hrep : repEn w.heap.size ((w2.setCell ⟨w1.heap.size, 1, none⟩ (.int .i64 x2)).setCells w.heap.size 0 [.slice ao x1.length cap, .int .i64 x2]) (.agg #[.slice ao x1.length cap, .int .i64 x2]) ⟨x1, x2⟩ :=
   ⟨.slice ao x1.length cap, rfl, (RRb.past (setCells_grown w.heap.size [.slice ao x1.length cap, .int .i64 x2] 0 _) (by omega)).down (by omega)⟩
 have hty := tyEn (.slice ao x1.length cap, ⟨x1, x2⟩) rfl
 unfold ecells at hty
 exact ret_cell rfl rfl hty q3 rfl ⟨_, ⟨x1, x2⟩, s2, rfl, hrep, q1, q2, R1.out.bind (R2.out.bind (Rel.pure _ _))⟩
end
/-! ## Rl3 -/
section
open Go.RowKit
theorem bagT : ET Try.prog 76 78 (.agg #[.slice none 0 0, .int .i64 0]) 2 32 := ⟨Try.underlying76, info_parts (by kernel_rfl), rfl, by decide, by decide⟩
def BR (L : Nat) (w : World) (b : Value) (ps : List (Value × En)) : Prop := ∀ p ∈ ps, repRow L w p.1 p.2.row ∧ ∀ q, b.ownBlock = some q → p.1.ownBlock ≠ some q
def repBag (L : Nat) (w : World) (v : Value) (l : List En) : Prop := ∃ ps : List (Value × En), ps.map (·.2) = l ∧ Sl w 2 v ps.length (ps.flatMap ecells) ∧ (∀ k, v.ownBlock = some k → L ≤ k ∧ k < w.heap.size) ∧ ∀ p ∈ ps, repRow L w p.1 p.2.row
theorem BR.call {L R : Nat} {w w' : World} {b : Value} {ps : List (Value × En)} (h : BR L w b ps) (hg : w.grownBy w' (some R)) (hR : R < L) : BR L w' b ps := fun p hp => ⟨(h p hp).1.past hg hR, (h p hp).2⟩
theorem BR.step {L : Nat} {w w' : World} {b b' : Value} {ps : List (Value × En)} (h : BR L w b ps) (hs : Step w b w' b') : BR L w' b' ps := fun p hp => by
 obtain ⟨h1, h2⟩ := h p hp
 refine ⟨⟨h1.1.kept hs.1 ?_, fun k hk => ⟨(h1.2 k hk).1, Nat.lt_of_lt_of_le (h1.2 k hk).2 hs.1.size⟩, h1.3⟩, fun q hq e => ?_⟩
 · cases hb : b.ownBlock with
   | none => cases p.1.ownBlock <;> simp
   | some q => exact .inr (h2 q hb)
 · rcases hs.2 q hq with h3 | h3
   · exact h2 q h3 e
   · exact absurd (h1.2 q e).2 (by omega)
theorem BR.add {L : Nat} {w : World} {b r : Value} {x : En} {ps : List (Value × En)} (h : BR L w b ps) (hr : repRow L w r x.row) (hne : ∀ q, b.ownBlock = some q → r.ownBlock ≠ some q) : BR L w b (ps ++ [(r, x)]) := fun p hp => by
 rcases List.mem_append.1 hp with hp | hp
 · exact h p hp
 · simp at hp
   subst hp
   exact ⟨hr, hne⟩
theorem listEn_walk {L : Nat} (R : Nat) (s : St) (most : Int) (w : World) (h : RSt 201 L w R s) (hm : I64 most) (hm2 : most ≤ 1000000) :
   Calls Try.prog 182 #[.pointer (some ⟨R, 0, none⟩), .int .i64 most, .func (.func 183) #[.pointer (some ⟨R, 0, none⟩)] #[]] w (RdPost 201 L w R (pList most pEn) s (repBag w.heap.size)) := by
 have hR := h.lt
 have HST := hid h
 clear h
 go_enter Try.func182, Try.ntmps182
 go_wp2_with fail
 refine (intIn_walk R s 0 most _ HST.out).mono ?_
 rintro e w1 ⟨v1, n, s1, rfl, ⟨rfl, hn⟩, hg1, hst1, hrel1⟩
 have REL1 := hid hrel1
 have hin : ∀ r, s1 = .ok r → n ≤ 1000000 := fun r hr => by subst hr; have := (inIn_ok hrel1).2; omega
 have HIN := hid hin
 clear hrel1 hin
 go_wp2
 go_loopw [7, 12] (fun b i wr => ∃ (k : Nat) (xs : List (Value × En)) (sk : St), k ≤ n.toNat ∧ i = .int .i64 k ∧ xs.length = k ∧ Own wr 78 2 b k (xs.flatMap ecells) ∧ BR w.heap.size wr b xs ∧ Hi b w.heap.size ∧ w.grownBy wr (some R) ∧ RSt 201 L wr R sk ∧ Rel (pRep pEn k) s1 (xs.map (·.2)) sk) (fun _ i _ => n.toNat - (intOf i).toNat)
 case atStart => exact ⟨0, [], s1, Nat.zero_le _, rfl, rfl, Own.nil _ _ _, fun p hp => by simp at hp, fun k hk => by simp [Value.ownBlock] at hk, hg1, hst1, Rel.pure _ _⟩
 case round =>
   obtain ⟨k, xs, sk, hk, rfl, hxl, hown, hbr, hhi, hgk, hstk, hrelk⟩ := hrel
   have OWN := hid hown
   have HBR := hid hbr
   have HHI := hid hhi
   have GK := hid hgk
   have SK := hid hstk
   have RK := hid hrelk
   clear hown hbr hhi hgk hstk hrelk
   by_cases hlt : (k : Int) < n
   · have hsz := GK.out.size
     go_wp2_with fail
     refine (entry_walk R sk wr SK.out).mono ?_
     rintro e w2 ⟨v2, x, s2, rfl, ⟨rv2, rfl, hrr⟩, hg2, hst2, hrel2⟩
     have R2 := hid hrel2
     have G2 := hid hg2
     have S2 := hid hst2
     obtain ⟨rv, er, hrow, hok, hbad⟩ := hst2.row
     obtain ⟨c0, c1, f0, f1⟩ := row2 hrow
     have hr2 := (Array.getElem?_eq_some_iff.1 hrow).1
     obtain ⟨ao, cap, rfl, _, _⟩ := hrr.1.shape
     have HRR := hid hrr
     unfold ecells
     obtain ⟨xr, xc⟩ := x
     clear hg2 hrel2 hst2 hrow hrr
     simp only
     cases s2 with
     | error ee =>
       obtain ⟨rfl, hne⟩ := hbad ee rfl
       have be : ((ee : Int) != 0) = true := by simp; omega
       clear hok hbad
       go_wp2
       go_ret
       have hs := rep_snoc k RK.out R2.out
       have hs2 : Rel (pRep pEn n.toNat) s1 [] (.error ee) := rep_err (by omega) hs
       exact ⟨_, [], .error ee, rfl, ⟨[], rfl, Sl.nil _ _, (fun k hk => by simp [Value.ownBlock] at hk), (fun p hp => by simp at hp)⟩, grown_trans (grown_trans GK.out G2.out) (World.grownBy_alloc _ _ _), S2.out.kept (World.grownBy_alloc _ _ _), REL1.out.bind hs2⟩
     | ok l2 =>
       obtain ⟨rfl, _⟩ := hok l2 rfl
       obtain ⟨lk, hlk⟩ := R2.out.was_ok
       have RK2 := RK.out
       rw [hlk] at RK2
       obtain ⟨l1, hl1⟩ := RK2.was_ok
       have hn2 := HIN.out l1 hl1
       clear hok hbad RK2 hlk hl1
       have hne : (Value.ownBlock u7) ≠ some R := fun e => by have := HHI.out _ e; omega
       have hown2 := OWN.out.kept G2.out (.inr hne)
       have hown3 := hown2.alloc (.cells #[.slice ao xr.length cap, .int .i64 xc] 78)
       go_wp2_with (at_builtin; go_must (refine wpList_pushH bagT rfl _ _ rfl _ _ _ rfl hown3 [.slice ao xr.length cap, .int .i64 xc] 1 (w2.heap.size + 1) (by simp) rfl rfl rfl (by omega) ?_; intro v3 w3 hown4 hst4))
       go_roundw
       case rel =>
         have hgA := World.grownBy_alloc w2 (.cells #[.slice ao xr.length cap, .int .i64 xc] 78) none
         have hg3 : w2.grownBy w3 u7.ownBlock := grown_trans (grown_none hgA) hst4.1
         refine ⟨k + 1, xs ++ [(.slice ao xr.length cap, ⟨xr, xc⟩)], .ok l2, by omega, by go_num, by simp [hxl], by simpa [ecells] using hown4, ?_, ?_, ?_, ?_, by simpa using rep_snoc k RK.out R2.out⟩
         · refine BR.step (BR.add (fun p hp => ?_) ((HRR.out.down (L' := w.heap.size) (by omega)).grow hgA) ?_) hst4
           · obtain ⟨h1, h2⟩ := (HBR.out.call G2.out hR) p hp
             exact ⟨h1.grow hgA, h2⟩
           · intro q hq e
             have h1 := (HRR.out.2 q e).1
             have h2 := Own.lt OWN.out q hq
             omega
         · exact (HHI.out.step (Step.grown hgA hst4) (by have := G2.out.size; omega))
         · refine ⟨hg3.os.trans (grown_trans GK.out G2.out).os, hg3.tape.trans (grown_trans GK.out G2.out).tape, hg3.output.trans (grown_trans GK.out G2.out).output, Nat.le_trans (grown_trans GK.out G2.out).size hg3.size, fun i hi hne2 => ?_⟩
           exact (hg3.block i (by have := G2.out.size; omega) (fun e => by have := HHI.out _ e.symm; omega)).trans ((grown_trans GK.out G2.out).block i hi hne2)
         · exact RSt.own S2.out hg3 (fun k hk => by have := HHI.out k hk; omega)
       case measure => simp [intOf]; omega
   · have hkn : k = n.toNat := by omega
     have e1 : decide ((k : Int) < n) = false := decide_eq_false hlt
     have HKN := hid hkn
     clear hkn hlt
     go_wp2
     go_ret
     have hrr := RK.out
     rw [HKN.out] at hrr
     subst hxl
     exact ⟨_, xs.map (·.2), sk, rfl, ⟨xs, rfl, Sl.of_own OWN.out, (fun k hk => ⟨HHI.out k hk, Own.lt OWN.out k hk⟩), fun p hp => (HBR.out p hp).1⟩, GK.out, SK.out, REL1.out.bind hrr⟩
theorem bag_walk {L : Nat} (R : Nat) (s : St) (w : World) (h : RSt 201 L w R s) :
   Calls Try.prog 125 #[.pointer (some ⟨R, 0, none⟩)] w (RdPost 201 L w R pBag s (repBag w.heap.size)) := by
 have hmf : ∀ (fn : Fn) (first cap : Array Value) (w : World), (Instr.makeFunc fn first cap).run Try.prog w = .ok (.func fn first cap) w := fun _ _ _ _ => rfl
 have HST := hid h
 clear h
 go_enter Try.func125, Try.ntmps125
 go_wp2_with fail
 refine (listEn_walk R s 4096 _ HST.out (by constructor <;> omega) (by omega)).mono ?_
 rintro e w1 ⟨v, x, s1, rfl, hrow, hg, hst, hrel⟩
 have H := hid (And.intro hrow (And.intro hg (And.intro hst hrel)))
 clear hrow hg hst hrel
 go_wp2
 go_ret
 exact ⟨v, x, s1, rfl, H.out.1, H.out.2.1, H.out.2.2.1, H.out.2.2.2⟩
end
/-! ## Rs4 -/
section
open Go.RowKit
def repInts (L : Nat) (w : World) (v : Value) (l : List Int) : Prop := Sl w 1 v l.length (l.map (Value.int .i64)) ∧ ∀ k, v.ownBlock = some k → L ≤ k ∧ k < w.heap.size
def repRec (L : Nat) (w : World) (v : Value) (x : Rec) : Prop := ∃ r q, v = .agg #[r, q, .int .i64 x.day] ∧ repRow L w r x.row ∧ repInts L w q x.seq
theorem tyRec (r q : Value) (d : Int) (hr : r.oneCell' = true) (hq : q.oneCell' = true) : TY Try.prog 95 [r, q, .int .i64 d] (.agg #[r, q, .int .i64 d]) := TY.agg Try.underlying95 rfl (by kernel_rfl) (by simp only [List.mem_cons, List.not_mem_nil, or_false]; rintro c (rfl | rfl | rfl) <;> first | rfl | assumption)
theorem RSt.drew {T : TypeId} {L : Nat} {w : World} {R : Nat} {s : St} (h : RSt T L w R s) : RSt T L w.drew R s := h
variable {T : TypeId} {L : Nat} {w W : World} {R B : Nat} {s : St} {TT : TypeId} {Z C : List Value}
theorem grown_drew (w : World) : w.grownBy w.drew none := ⟨rfl, rfl, rfl, Nat.le_refl _, fun _ _ _ => rfl⟩
theorem FR.past (h : FR T L w W R B s TT Z C) {W' : World} {row : Option Nat} (hg : W.grownBy W' row) (hr : ∀ k, row = some k → B < k) : FR T L w W' R B s TT Z C := by
 have h1 := h.lt
 have h2 := h.hB
 have hn : ∀ k, k ≤ B → some k ≠ row := fun k hk e => by have := hr k e.symm; omega
 refine ⟨h1, h2, ?_, RSt.own h.st hg (fun k hk => by have := hr k hk; omega), row_of hg h.b0 (hn _ (by omega)), row_of hg h.b1 (hn _ (by omega))⟩
 exact ⟨hg.os.trans h.hg.os, hg.tape.trans h.hg.tape, hg.output.trans h.hg.output, Nat.le_trans h.hg.size hg.size, fun i hi hne =>
   (hg.block i (Nat.lt_of_lt_of_le hi h.hg.size) (hn i (by omega))).trans (h.hg.block i hi hne)⟩
theorem intsT : ET Try.prog 93 3 (.int .i64 0) 1 8 := ⟨Try.underlying93, info_parts (by kernel_rfl), rfl, by decide, by decide⟩
theorem step_pushS {P : Program} {t e : TypeId} {z : Value} {size bytes : Nat} (E : ET P t e z size bytes) {w : World} {ops : Array Oper} {o : Oper} {a : Act} {K : Act → World → Prop} {Q : Exit → Act → World → Prop} {El : Prop}
   (hgd : o.guard = none) (s x : Operand) (ho : o.op = .call { callee := .builtin .append, args := #[s, x], argTypes := #[t, t] })
   (v : Value) (n : Nat) (xs : List Value) (hs : a.eval s = v)
   (c : List Value) (m H : Nat) (hown : Own (w.alloc (.cells c.toArray e)) e size v n xs) (hH : H = w.heap.size) (hx : a.eval x = .slice (some ⟨H, 0, none⟩) m m) (hl : c.length = m * size) (h1 : c.all Value.oneCell' = true)
   (h63 : n + m ≤ 1099511627776)
   (h : ∀ ad cap w', Own w' e size (.slice ad (n + m) cap) (n + m) (xs ++ c) → Step (w.alloc (.cells c.toArray e)) v w' (.slice ad (n + m) cap) → K (a.put o.dst (.slice ad (n + m) cap)) w') :
   if Region.wanted o (yielded ops a.tmps) = true then Oper.wp P o a (w.alloc (.cells c.toArray e)) K Q else El := by
 subst hH
 rw [if_pos (by simp [Region.wanted, hgd])]
 have hsl : Sl (w.alloc (.cells c.toArray e)) size (.slice (some ⟨w.heap.size, 0, none⟩) m m) m c := ⟨hl, some ⟨w.heap.size, 0, none⟩, m, rfl, Nat.le_refl _, by unfold maxLen; omega, fun h => (by cases h), fun ad had => by
   obtain rfl := Option.some.inj had
   refine ⟨rfl, fun j u hu => ?_⟩
   rw [Nat.zero_add, World.cell?_alloc_at _ _ _ _ rfl]
   simpa using hu⟩
 obtain ⟨v', w', hr, h2, h3⟩ := run_app E o.type hown hsl h1 h63
 unfold Oper.wp execOp
 simp only [ho, resolve, invoke, builtin, Sem.run_bind, Sem.run_pure, Result.andThen_ok, List.map_toArray, List.map_cons, List.map_nil, hs, hx, hr]
 obtain ⟨_, ad, cap, he, _⟩ := Sl.of_own h2
 subst he
 exact h ad cap w' h2 h3
theorem step_callS {P : Program} {w : World} {ops : Array Oper} {o : Oper} {a : Act} {K : Act → World → Prop} {Q : Exit → Act → World → Prop} {El : Prop} {R : Ending → World → Prop}
   (hgd : o.guard = none) (f : Nat) (args : Array Operand) (tys : Array TypeId) (ho : o.op = .call { callee := .value (.func f), args := args, argTypes := tys })
   (hen : ∀ (av : Array Value) w, ((Deferred.ofValue (.func (.func f) #[] #[]) av).run P w).andThen (fun a w' => (invoke a.target a.args).run P w') = .ok (.enter f av) w)
   (av : Array Value) (hav : args.map a.eval = av) (hc : Calls P f av w R) (h : ∀ e w', R e w' → ∃ v, e = .returned v ∧ K (a.put o.dst v) w') :
   if Region.wanted o (yielded ops a.tmps) = true then Oper.wp P o a w K Q else El := by
 rw [if_pos (by simp [Region.wanted, hgd])]
 have hr : (execOp a.eval o).run P w = .ok (.enter f av) w := by
   subst hav
   simp only [execOp, ho, resolve, Act.eval, Sem.run_bind]
   exact hen (args.map a.eval) w
 unfold Oper.wp
 rw [hr, Oper.upon_enter]
 refine hc.mono ?_
 intro e w' hR
 obtain ⟨v, rfl, hk⟩ := h e w' hR
 exact hk
theorem enterInt : ∀ (av : Array Value) (w : World), ((Deferred.ofValue (.func (.func 91) #[] #[]) av).run Try.prog w).andThen (fun a w' => (invoke a.target a.args).run Try.prog w') = .ok (.enter 91 av) w := enter_of Try.func91 (by kernel_rfl) rfl
structure RecMid (L : Nat) (w wr : World) (R B : Nat) (r q d : Value) (k : Nat) (xs : List Value) (sk : St) (w2 : World) (x : Int) (s2 : St) : Prop where
 fr : FR 201 L w w2 R B s2 95 [.slice none 0 0, .slice none 0 0, .int .i64 0] [r, q, d]
 own : Own w2 3 1 q k xs
 hg : wr.grownBy w2 (some R)
 rel : Rel pInt sk x s2
theorem rec_int {L : Nat} {w wr : World} {R B : Nat} {r q d : Value} {k : Nat} {xs : List Value} {sk : St} (FK : FR 201 L w wr R B sk 95 [.slice none 0 0, .slice none 0 0, .int .i64 0] [r, q, d])
   (OWN : Own wr 3 1 q k xs) (HHI : Hi q (B + 1)) :
   Calls Try.prog 91 #[.pointer (some ⟨R, 0, none⟩)] wr.drew fun e w2 => ∃ x s2, e = .returned (.int .i64 x) ∧ w2.cell? ⟨B, 1, none⟩ = some q ∧ (∀ o, (w2.alloc o).cell? ⟨B, 1, none⟩ = some q) ∧ Hid (RecMid L w wr R B r q d k xs sk w2 x s2) := by
 have hfd := FK.past (grown_drew wr) (fun k hk => by cases hk)
 refine (int_walk R sk _ hfd.st).mono ?_
 rintro e w2 ⟨v2, x, s2, rfl, ⟨rfl, hn⟩, hg2, hst2, hrel2⟩
 have hR := FK.lt
 have hB := FK.hB
 have hne : q.ownBlock ≠ some R := fun e => by have := HHI _ e; omega
 have h1 : Own wr.drew 3 1 q k xs := OWN.kept (grown_drew wr) (by cases q.ownBlock <;> simp)
 exact ⟨x, s2, rfl, (hfd.call hg2 hst2).cell 1, (fun o => ((hfd.call hg2 hst2).past (World.grownBy_alloc w2 o none) (fun k hk => by cases hk)).cell 1), hid ⟨hfd.call hg2 hst2, h1.kept hg2 (.inr hne), grown_trans (grown_none (grown_drew wr)) hg2, hrel2⟩⟩
theorem repRow.past3 {L : Nat} {w w' : World} {row : Option Nat} {v : Value} {l : List V} (h : repRow L w v l) (hg : w.grownBy w' row) (hB : ∀ k, v.ownBlock = some k → some k ≠ row) : repRow L w' v l :=
 ⟨h.1.kept hg (by cases hv : v.ownBlock with | none => exact .inl rfl | some k => exact .inr (hB k hv)), fun k hk => ⟨(h.2 k hk).1, Nat.lt_of_lt_of_le (h.2 k hk).2 hg.size⟩, h.3⟩
theorem record_walk {L : Nat} (R : Nat) (s : St) (w : World) (h : RSt 201 L w R s) :
   Calls Try.prog 134 #[.pointer (some ⟨R, 0, none⟩)] w (RdPost 201 L w R pRec s (repRec w.heap.size)) := by
 have hR := h.lt
 have F0 := hid (h.kept (World.grownBy_alloc w (.cells #[.slice none 0 0, .slice none 0 0, .int .i64 0] 95) none))
 clear h
 go_enter Try.func134, Try.ntmps134
 go_wp2_with fail
 refine (row_walk R s _ F0.out).mono ?_
 rintro e w1 ⟨v1, x1, s1, rfl, hrow, hg, hst, hrel⟩
 obtain ⟨ao, cap, rfl, hxc, hcm⟩ := hrow.1.shape
 have G1 := hid (FR.start1 95 [.slice none 0 0, .slice none 0 0, .int .i64 0] [.slice ao x1.length cap, .slice none 0 0, .int .i64 0] hR hg hst)
 have hs0 : w.heap.size + 1 ≤ w1.heap.size := by have := hg.size; simpa using this
 have hrow1 : repRow (w.heap.size + 1) w1 (.slice ao x1.length cap) x1 := hrow.down (by simp)
 have NE := hid hrow1.ne
 have RR1 := hid (hrow1.grow (World.grownBy_alloc w1 (.cells #[.slice ao x1.length cap, .slice none 0 0, .int .i64 0] 95) none))
 have UP := hid (fun k (hk : (Value.slice ao x1.length cap).ownBlock = some k) => (hrow1.2 k hk).2)
 have R1 := hid hrel
 clear hrow hg hst hrel hrow1
 have hlen : x1.length ≤ 1000000 := RR1.out.len
 clear hxc hcm
 have c0 := G1.out.cell
 have f0 := G1.out.frozen
 go_wp2
 clear c0 f0
 go_loopw [10] (fun i wr => ∃ (k : Nat) (xs : List Int) (sk : St) (q : Value), k ≤ x1.length ∧ i = .int .i64 k ∧ xs.length = k ∧ FR 201 L w wr R w1.heap.size sk 95 [.slice none 0 0, .slice none 0 0, .int .i64 0] [.slice ao x1.length cap, q, .int .i64 0] ∧ Own wr 3 1 q k (xs.map (Value.int .i64)) ∧ Hi q (w1.heap.size + 1) ∧ repRow (w.heap.size + 1) wr (.slice ao x1.length cap) x1 ∧ Rel (pRep pInt k) s1 xs sk) (fun i _ => x1.length - (intOf i).toNat)
 case atStart => exact ⟨0, [], s1, .slice none 0 0, Nat.zero_le _, rfl, rfl, G1.out, Own.nil _ _ _, fun k hk => by simp [Value.ownBlock] at hk, RR1.out, Rel.pure _ _⟩
 case round =>
   obtain ⟨k, xs, sk, q, hk, rfl, hxl, hfr, hown, hhi, hrr, hrelk⟩ := hrel
   have FK := hid hfr
   have OWN := hid hown
   have HHI := hid hhi
   have RRK := hid hrr
   have RK := hid hrelk
   have hqs : ∃ aq cq, q = .slice aq k cq := by
     obtain ⟨_, aq, cq, h, _⟩ := Sl.of_own hown
     exact ⟨aq, cq, h⟩
   obtain ⟨aq, cq, rfl⟩ := hqs
   have c1 := hfr.cell 1
   have f1 := hfr.frozen 1
   clear hfr hown hhi hrr hrelk
   by_cases hlt : k < x1.length
   · go_wp2
     go_region_law
       (first
         | (refine step_callS rfl 91 #[.tmp 14] #[153] rfl enterInt #[.pointer (some ⟨R, 0, none⟩)] (by simp [Act.eval, Act.put]) (rec_int FK.out OWN.out HHI.out) ?_
            rintro e w2 ⟨x, s2, rfl, c2, c2b, M2⟩
            refine ⟨_, rfl, ?_⟩)
         | (refine step_pushS intsT rfl _ _ rfl _ _ _ rfl [.int .i64 x] 1 w2.heap.size (M2.out.own.alloc _) rfl rfl rfl rfl (by omega) ?_
            intro a3 p3 w3 hown4 hst4
            have F3 := hid ((M2.out.fr.past (World.grownBy_alloc w2 (.cells #[.int .i64 x] 3) none) (fun k hk => by cases hk)).past hst4.1 (fun k hk => by have := HHI.out k hk; omega))
            have c3 := F3.out.cell 1
            have f3 := F3.out.frozen 1)
         | fail)
     all_goals go_wp2
     all_goals go_roundw
     case measure => simp [intOf]; omega
     case measure => simp [intOf]; omega
     case measure => simp [intOf]; omega
     all_goals
       have hB1 := M2.out.fr.size
       have hHi := HHI.out.step hst4 (by simp; omega)
       have hr2 := ((RRK.out.past M2.out.hg (by omega)).grow (World.grownBy_alloc w2 (.cells #[.int .i64 x] 3) none)).past3 hst4.1 (fun b hb e => by have := UP.out b hb; have := HHI.out b e.symm; omega)
       exact ⟨k + 1, xs ++ [x], s2, .slice a3 (k + 1) p3, by omega, by go_num, by simp [hxl], F3.out.store1 1 _ rfl, by simpa using hown4.kept (grown_setCell w3 ⟨w1.heap.size, 1, none⟩ (.slice a3 (k + 1) p3)) (.inr fun e => by have h9 : w1.heap.size + 1 ≤ w1.heap.size := hHi _ e; omega), hHi, hr2.past2 (grown_setCell w3 ⟨w1.heap.size, 1, none⟩ (.slice a3 (k + 1) p3)) NE.out, rep_snoc k RK.out M2.out.rel⟩
   · obtain rfl : k = x1.length := by omega
     clear c1 f1 hlt hk
     go_wp2_with fail
     refine (int_walk R sk _ FK.out.st).mono ?_
     rintro e w2 ⟨v2, d, s2, rfl, ⟨rfl, hn⟩, hg, hst, hrel⟩
     have G2 := hid (FK.out.call hg hst)
     have R2 := hid hrel
     have HG := hid hg
     have c1 := G2.out.cell
     have f1 := G2.out.frozen
     have c0 := G2.out.cell0
     have f0 := G2.out.frozen0
     clear hn hg hst hrel
     go_wp2
     have F2 := hid (G2.out.store1 2 (.int .i64 d) (C' := [.slice ao x1.length cap, .slice aq x1.length cq, .int .i64 d]) rfl)
     obtain ⟨q1, q2, q3⟩ := F2.out.fin rfl
     have hsz := FK.out.size
     have hr2 := ((RRK.out.past HG.out (by omega)).past2 (grown_setCell w2 ⟨w1.heap.size, 2, none⟩ (.int .i64 d)) NE.out).past (setCells_grown w.heap.size [.slice ao x1.length cap, .slice aq x1.length cq, .int .i64 d] 0 _) (by omega)
     have hq2 := ((((OWN.out.kept HG.out (.inr fun e => by have := HHI.out _ e; omega)).kept (grown_setCell w2 ⟨w1.heap.size, 2, none⟩ (.int .i64 d)) (.inr fun e => by have h9 : w1.heap.size + 1 ≤ w1.heap.size := HHI.out _ e; omega)).kept (setCells_grown w.heap.size [.slice ao x1.length cap, .slice aq x1.length cq, .int .i64 d] 0 _) (.inr fun e => by have := HHI.out _ e; omega)))
     have hql := Own.lt' hq2
     have hrep : repRec w.heap.size (((w2.setCell ⟨w1.heap.size, 2, none⟩ (.int .i64 d))).setCells w.heap.size 0 [.slice ao x1.length cap, .slice aq x1.length cq, .int .i64 d]) (.agg #[.slice ao x1.length cap, .slice aq x1.length cq, .int .i64 d]) ⟨x1, xs, d⟩ :=
       ⟨_, _, rfl, hr2.down (by omega), ⟨by rw [hxl]; exact Sl.of_own hq2, fun k hk => ⟨by have := HHI.out k hk; omega, hql k hk⟩⟩⟩
     have hrr := RK.out
     exact ret_cell rfl rfl (tyRec _ _ d rfl rfl) q3 rfl ⟨_, ⟨x1, xs, d⟩, s2, rfl, hrep, q1, q2, R1.out.bind (hrr.bind (R2.out.bind (Rel.pure _ _)))⟩
end
/-! ## Rs5 -/
section
open Go.RowKit
theorem grown_setRow (w : World) (g : Nat) (cs : Array Value) : w.grownBy (w.setRow g cs) (some g) := ⟨rfl, rfl, rfl, by simp [World.setRow], fun k _ hk => setRow_other w g k cs (fun e => hk (by rw [e]))⟩
theorem step_copyS {P : Program} {ops : Array Oper} {o : Oper} {a : Act} {w : World} {K : Act → World → Prop} {Q : Exit → Act → World → Prop} {E : Prop} (hgd : o.guard = none) (d s : Operand) (dT sT : TypeId)
   (ho : o.op = .call { callee := .builtin .copy, args := #[d, s], argTypes := #[dT, sT] }) (elem : TypeId) (hu : P.underlying dT = some (.slice elem)) (hsz : (P.info? elem).map (·.size) = some 1)
   (g dLen dCap : Nat) (sp : Option Addr) (sLen sCap : Nat) (hd : a.eval d = .slice (some ⟨g, 0, none⟩) dLen dCap) (hs : a.eval s = .slice sp sLen sCap)
   (cur : List Value) (t : TypeId) (hg : w.heap[g]? = some (.cells cur.toArray t (0, 0))) (cs : List Value) (hn : cs.length = Nat.min sLen dLen)
   (hpos : 0 < cs.length → ∃ ad, sp = some ad ∧ ∀ j v, cs[j]? = some v → w.cell? (ad.add j) = some v)
   (hfit : cs.length ≤ cur.length) (h1 : ∀ v ∈ cs, v.oneCell' = true)
   (h : ∀ w', w.grownBy w' (some g) → w'.heap[g]? = some (.cells (cs ++ cur.drop cs.length).toArray t (0, 0)) → K (a.put o.dst (goInt cs.length)) w') :
   if Region.wanted o (yielded ops a.tmps) = true then Oper.wp P o a w K Q else E := by
 rw [if_pos (by simp [Region.wanted, hgd])]
 by_cases h0 : cs.length = 0
 · obtain rfl : cs = [] := List.eq_nil_of_length_eq_zero h0
   have hrun := run_copy_none (P := P) w dT sT o.type elem (some ⟨g, 0, none⟩) sp dLen dCap sLen sCap hu hsz (by simpa using hn.symm)
   unfold Oper.wp
   simp [execOp, ho, resolve, invoke, builtin, hd, hs, hrun, Result.andThen]
   exact h w (World.grownBy.refl _ _) (by simpa using hg)
 · obtain ⟨ad, rfl, hsrc⟩ := hpos (by omega)
   have hrun := run_copy_row (P := P) w dT sT o.type elem g 0 dLen dCap ad sLen sCap cur.toArray t cs hu hsz hg hn hsrc (by simpa using hfit) h1
   unfold Oper.wp
   simp [execOp, ho, resolve, invoke, builtin, hd, hs, hrun, Result.andThen]
   exact h _ (grown_setRow w g _) (by simpa using setRow_heap w g _ _ t _ hg)
theorem bv_one {x : List Nat} {v : Value} (h : v ∈ bv x) : v.oneCell' = true := by
 simp only [bv, List.mem_map] at h
 obtain ⟨b, _, rfl⟩ := h
 rfl
theorem wpList_loadTY {P : Program} {ops : Array Oper} {rest : List Oper} {o : Oper} {a : Act} {w : World} {Q : Exit → Act → World → Prop} (hgd : o.guard = none) (T : TypeId) (x : Operand) (ho : o.op = .load T x)
   {b : Nat} {cs : List Value} {v : Value} {t : TypeId} {fr : Nat × Nat} (hx : a.eval x = .pointer (some ⟨b, 0, none⟩)) (ty : TY P T cs v) (hb : w.heap[b]? = some (.cells cs.toArray t fr))
   (h : wpList P ops Q rest (a.put o.dst v) w) : wpList P ops Q (o :: rest) a w := by
 refine wpList_plain hgd fun K hK => ?_
 have hl := ty.loads hb
 unfold ptr at hl
 unfold Oper.wp execOp
 simp only [ho, hx, Sem.run_bind, Sem.run_pure, Result.andThen_ok, hl]
 exact hK _ _ h
theorem wpList_storeTY {P : Program} {ops : Array Oper} {rest : List Oper} {o : Oper} {a : Act} {w : World} {Q : Exit → Act → World → Prop} (hgd : o.guard = none) (T : TypeId) (x y : Operand) (ho : o.op = .store T x y)
   {b : Nat} {cs : List Value} {c0 : Array Value} {v : Value} {t : TypeId} (hx : a.eval x = .pointer (some ⟨b, 0, none⟩)) (hy : a.eval y = v) (ty : TY P T cs v) (hb : w.heap[b]? = some (.cells c0 t (0, 0))) (hc : c0.size = cs.length)
   (h : wpList P ops Q rest (a.put o.dst undef) (w.setCells b 0 cs)) : wpList P ops Q (o :: rest) a w := by
 refine wpList_plain hgd fun K hK => ?_
 have hl := (ty.stores hb hc).1
 unfold ptr at hl
 unfold Oper.wp execOp
 simp only [ho, hx, hy, Sem.run_bind, Sem.run_pure, Result.andThen_ok, hl]
 exact hK _ _ h
def repDig (_ : World) (v : Value) (x : List Nat) : Prop := v = .agg (bv x).toArray ∧ x.length = 32 ∧ ∀ b ∈ x, b < 256
theorem tyDig (x : List Nat) (h : x.length = 32) : TY Try.prog 45 (bv x) (.agg (bv x).toArray) := TY.agg Try.underlying45 rfl (by rw [bv_length, h]; kernel_rfl) (by intro c hc; simp only [bv, List.mem_map] at hc; obtain ⟨b, _, rfl⟩ := hc; rfl)
theorem enterBytes : ∀ (av : Array Value) (w : World), ((Deferred.ofValue (.func (.func 168) #[] #[]) av).run Try.prog w).andThen (fun a w' => (invoke a.target a.args).run Try.prog w') = .ok (.enter 168 av) w := enter_of Try.func168 (by kernel_rfl) rfl
def dig32 (x : List Nat) : List Nat := x.take 32 ++ z32.drop (x.take 32).length
theorem dig32_length (x : List Nat) : (dig32 x).length = 32 := by simp [dig32, z32]; omega
theorem dig32_lt {x : List Nat} (h : ∀ b ∈ x, b < 256) : ∀ b ∈ dig32 x, b < 256 := by
 intro b hb
 rcases List.mem_append.1 hb with hb | hb
 · exact h b (List.mem_of_mem_take hb)
 · have := List.eq_of_mem_replicate (List.mem_of_mem_drop hb)
   omega
theorem dig32_of {x : List Nat} (h : x.length = 32) : dig32 x = x := by
 have : x.take 32 = x := List.take_of_length_le (by omega)
 simp [dig32, this, z32, h]
theorem bv_z32 : bv z32 = [.int .u8 0, .int .u8 0, .int .u8 0, .int .u8 0, .int .u8 0, .int .u8 0, .int .u8 0, .int .u8 0, .int .u8 0, .int .u8 0, .int .u8 0, .int .u8 0, .int .u8 0, .int .u8 0, .int .u8 0, .int .u8 0, .int .u8 0, .int .u8 0, .int .u8 0, .int .u8 0, .int .u8 0, .int .u8 0, .int .u8 0, .int .u8 0, .int .u8 0, .int .u8 0, .int .u8 0, .int .u8 0, .int .u8 0, .int .u8 0, .int .u8 0, .int .u8 0] := by rfl
theorem dig_rel {s s1 : St} {x : List Nat} (h : Rel (pBytes 32) s x s1) : Rel (pBytes 32) s (dig32 x) s1 := by
 cases s with
 | error e => exact h
 | ok l =>
   unfold Rel at *
   cases hp : pBytes 32 l with
   | error e => simp only [hp] at *; exact h
   | ok p =>
     obtain ⟨y, r⟩ := p
     simp only [hp] at h
     obtain ⟨rfl, h2⟩ := h
     simp only [hp]
     exact ⟨(dig32_of (bytes_only hp).2).symm, h2⟩
theorem sl_src {w : World} {ao : Option Addr} {n cap : Nat} {xs : List Value} (h : Sl w 1 (.slice ao n cap) n xs) (m : Nat) : 0 < (xs.take m).length → ∃ ad, ao = some ad ∧ ∀ j v, (xs.take m)[j]? = some v → w.cell? (ad.add j) = some v := by
 intro h0
 obtain ⟨hl, ao', cap', he, h1, h2, h3, h4⟩ := h
 cases he
 cases ao with
 | none =>
   have := h3 rfl
   simp at h0
   omega
 | some ad =>
   obtain ⟨hs, hc⟩ := h4 ad rfl
   refine ⟨ad, rfl, fun j v hj => ?_⟩
   have hadd : ad.add j = ⟨ad.block, ad.off + j, none⟩ := by
     obtain ⟨b, o, sp⟩ := ad
     simp only at hs
     subst hs
     unfold Addr.add
     split
     · rename_i h; subst h; rfl
     · rfl
   rw [hadd]
   have hjl : j < m := by
     have := (List.getElem?_eq_some_iff.1 hj).1
     simp at this
     omega
   rw [List.getElem?_take, if_pos hjl] at hj
   exact hc j v hj
theorem dig_bytes {L : Nat} {w W : World} {R B : Nat} {s : St} {TT : TypeId} {Z C : List Value} (F : FR 201 L w W R B s TT Z C) :
   Calls Try.prog 168 #[.pointer (some ⟨R, 0, none⟩), .int .i64 32] W.drew fun e w2 => ∃ x s2 ao cap, e = .returned (.slice ao x.length cap) ∧ Hid (FR 201 L w w2 R B s2 TT Z C ∧ Sl w2 1 (.slice ao x.length cap) x.length (bv x) ∧ (∀ b ∈ x, b < 256) ∧ Rel (pBytes 32) s x s2) := by
 have hfd := F.past (grown_drew W) (fun k hk => by cases hk)
 refine (bytes_walk R s 32 _ hfd.st (by constructor <;> omega) (fun _ _ => by omega)).mono ?_
 rintro e w2 ⟨v, x, s2, rfl, ⟨h1, h2, h3⟩, hg, hst, hrel⟩
 obtain ⟨ao, cap, rfl, _, _⟩ := h1.shape
 exact ⟨x, s2, ao, cap, rfl, hid ⟨hfd.call hg hst, h1, h2, hrel⟩⟩
theorem digest_walk {L : Nat} (R : Nat) (s : St) (w : World) (h : RSt 201 L w R s) :
   Calls Try.prog 106 #[.pointer (some ⟨R, 0, none⟩)] w (RdPost 201 L w R (pBytes 32) s repDig) := by
 have hR := h.lt
 have F0 := hid (FR.start 45 [Value.int .u8 0, Value.int .u8 0, Value.int .u8 0, Value.int .u8 0, Value.int .u8 0, Value.int .u8 0, Value.int .u8 0, Value.int .u8 0, Value.int .u8 0, Value.int .u8 0, Value.int .u8 0, Value.int .u8 0, Value.int .u8 0, Value.int .u8 0, Value.int .u8 0, Value.int .u8 0, Value.int .u8 0, Value.int .u8 0, Value.int .u8 0, Value.int .u8 0, Value.int .u8 0, Value.int .u8 0, Value.int .u8 0, Value.int .u8 0, Value.int .u8 0, Value.int .u8 0, Value.int .u8 0, Value.int .u8 0, Value.int .u8 0, Value.int .u8 0, Value.int .u8 0, Value.int .u8 0] h)
 clear h
 go_enter Try.func106, Try.ntmps106
 go_wp2
 generalize hW : ((w.alloc (Obj.cells (List.toArray [Value.int .u8 0, Value.int .u8 0, Value.int .u8 0, Value.int .u8 0, Value.int .u8 0, Value.int .u8 0, Value.int .u8 0, Value.int .u8 0, Value.int .u8 0, Value.int .u8 0, Value.int .u8 0, Value.int .u8 0, Value.int .u8 0, Value.int .u8 0, Value.int .u8 0, Value.int .u8 0, Value.int .u8 0, Value.int .u8 0, Value.int .u8 0, Value.int .u8 0, Value.int .u8 0, Value.int .u8 0, Value.int .u8 0, Value.int .u8 0, Value.int .u8 0, Value.int .u8 0, Value.int .u8 0, Value.int .u8 0, Value.int .u8 0, Value.int .u8 0, Value.int .u8 0, Value.int .u8 0]) 45)).alloc (Obj.cells (List.toArray [Value.int .u8 0, Value.int .u8 0, Value.int .u8 0, Value.int .u8 0, Value.int .u8 0, Value.int .u8 0, Value.int .u8 0, Value.int .u8 0, Value.int .u8 0, Value.int .u8 0, Value.int .u8 0, Value.int .u8 0, Value.int .u8 0, Value.int .u8 0, Value.int .u8 0, Value.int .u8 0, Value.int .u8 0, Value.int .u8 0, Value.int .u8 0, Value.int .u8 0, Value.int .u8 0, Value.int .u8 0, Value.int .u8 0, Value.int .u8 0, Value.int .u8 0, Value.int .u8 0, Value.int .u8 0, Value.int .u8 0, Value.int .u8 0, Value.int .u8 0, Value.int .u8 0, Value.int .u8 0]) 45)) = W at *
 go_region_law
   (first
     | (refine step_callS rfl 168 #[.tmp 5, .const (.int .i64 32)] #[153, 3] rfl enterBytes #[.pointer (some ⟨R, 0, none⟩), .int .i64 32] (by simp [Act.eval, Act.put]) (dig_bytes F0.out) ?_
        rintro e w2 ⟨x, s2, ao, cap, rfl, M2⟩
        refine ⟨_, rfl, ?_⟩)
     | (refine step_copyS rfl (.tmp 4) (.tmp 6) 22 22 rfl 5 Try.underlying22 (by kernel_rfl) (w.heap.size + 1) 32 32 ao x.length cap (by simp [Act.eval]) (by simp [Act.eval]) [Value.int .u8 0, Value.int .u8 0, Value.int .u8 0, Value.int .u8 0, Value.int .u8 0, Value.int .u8 0, Value.int .u8 0, Value.int .u8 0, Value.int .u8 0, Value.int .u8 0, Value.int .u8 0, Value.int .u8 0, Value.int .u8 0, Value.int .u8 0, Value.int .u8 0, Value.int .u8 0, Value.int .u8 0, Value.int .u8 0, Value.int .u8 0, Value.int .u8 0, Value.int .u8 0, Value.int .u8 0, Value.int .u8 0, Value.int .u8 0, Value.int .u8 0, Value.int .u8 0, Value.int .u8 0, Value.int .u8 0, Value.int .u8 0, Value.int .u8 0, Value.int .u8 0, Value.int .u8 0] 45 M2.out.1.b1 ((bv x).take 32) (by rw [List.length_take, bv_length]; exact Nat.min_comm _ _) (sl_src M2.out.2.1 32) (by simp [bv]; omega) (fun v hv => bv_one (List.mem_of_mem_take hv)) ?_
        intro w3 hg3 hb3))
 have e1 : (bv x).take 32 ++ List.drop ((bv x).take 32).length [Value.int .u8 0, Value.int .u8 0, Value.int .u8 0, Value.int .u8 0, Value.int .u8 0, Value.int .u8 0, Value.int .u8 0, Value.int .u8 0, Value.int .u8 0, Value.int .u8 0, Value.int .u8 0, Value.int .u8 0, Value.int .u8 0, Value.int .u8 0, Value.int .u8 0, Value.int .u8 0, Value.int .u8 0, Value.int .u8 0, Value.int .u8 0, Value.int .u8 0, Value.int .u8 0, Value.int .u8 0, Value.int .u8 0, Value.int .u8 0, Value.int .u8 0, Value.int .u8 0, Value.int .u8 0, Value.int .u8 0, Value.int .u8 0, Value.int .u8 0, Value.int .u8 0, Value.int .u8 0] = bv (dig32 x) := by
   unfold dig32
   rw [bv_append, ← bv_z32]
   simp [bv, List.map_take, List.map_drop]
 rw [e1] at hb3
 have hd := tyDig (dig32 x) (dig32_length x)
 obtain ⟨V, hV⟩ : ∃ V : Value, V = .agg (bv (dig32 x)).toArray := ⟨_, rfl⟩
 rw [← hV] at hd
 have hz : w3.heap[w.heap.size]? = some (.cells (List.toArray [Value.int .u8 0, Value.int .u8 0, Value.int .u8 0, Value.int .u8 0, Value.int .u8 0, Value.int .u8 0, Value.int .u8 0, Value.int .u8 0, Value.int .u8 0, Value.int .u8 0, Value.int .u8 0, Value.int .u8 0, Value.int .u8 0, Value.int .u8 0, Value.int .u8 0, Value.int .u8 0, Value.int .u8 0, Value.int .u8 0, Value.int .u8 0, Value.int .u8 0, Value.int .u8 0, Value.int .u8 0, Value.int .u8 0, Value.int .u8 0, Value.int .u8 0, Value.int .u8 0, Value.int .u8 0, Value.int .u8 0, Value.int .u8 0, Value.int .u8 0, Value.int .u8 0, Value.int .u8 0]) 45 (0, 0)) := row_of hg3 M2.out.1.b0 (by simp)
 have M3 := hid (hd.stores hz (by rw [bv_length, dig32_length]; rfl)).2
 have HZ := hid hz
 have HB := hid hb3
 have HD := hid hd
 have HG := hid hg3
 clear hb3 hd hz e1 hg3
 go_wp2_with (first | (refine wpList_loadTY rfl 45 (.tmp 3) rfl rfl HD.out HB.out ?_) | (refine wpList_storeTY rfl 45 (.tmp 2) (.tmp 8) rfl rfl rfl HD.out HZ.out (by rw [bv_length, dig32_length]; rfl) ?_) | fail)
 have q1 := M3.out.1
 have q2 := M3.out.2
 have hR1 : R < w.heap.size + 1 := by omega
 exact ret_cell rfl rfl HD.out q2 rfl ⟨_, dig32 x, s2, rfl, ⟨hV, dig32_length x, dig32_lt M2.out.2.2.1⟩, grown_R (grown_R M2.out.1.hg HG.out (Nat.le_succ _)) q1 (Nat.le_refl _), (M2.out.1.st.past HG.out hR1).past q1 hR, dig_rel M2.out.2.2.2⟩
end
/-! ## Mono -/
section
open Go.RowKit
theorem cell_congr {w w' : World} {b : Nat} (h : w'.heap[b]? = w.heap[b]?) (j : Nat) : w'.cell? ⟨b, j, none⟩ = w.cell? ⟨b, j, none⟩ := by
 simp [World.cell?, h]
theorem Sl.later {w w' : World} {sz L : Nat} {v : Value} {n : Nat} {xs : List Value} (h : Sl w sz v n xs) (hb : ∀ k, v.ownBlock = some k → L ≤ k ∧ k < w.heap.size) (hk : ∀ k, L ≤ k → k < w.heap.size → w'.heap[k]? = w.heap[k]?) : Sl w' sz v n xs := by
 obtain ⟨hl, ao, cap, rfl, h1, h2, h3, h4⟩ := h
 refine ⟨hl, ao, cap, rfl, h1, h2, h3, fun a ha => ?_⟩
 obtain ⟨hs, hc⟩ := h4 a ha
 refine ⟨hs, fun j u hu => ?_⟩
 subst ha
 obtain ⟨q1, q2⟩ := hb a.block rfl
 rw [cell_congr (hk _ q1 q2)]
 exact hc j u hu
theorem later_bd {w w' : World} {L L' : Nat} {v : Value} (hb : ∀ k, v.ownBlock = some k → L ≤ k ∧ k < w.heap.size) (hs : w.heap.size ≤ w'.heap.size) (hL : L' ≤ L) : ∀ k, v.ownBlock = some k → L' ≤ k ∧ k < w'.heap.size := fun k hk => by
 have := hb k hk
 omega
theorem repRow_mono (L : Nat) (w w' : World) (v : Value) (x : List V) (h : repRow L w v x) (hs : w.heap.size ≤ w'.heap.size) (hk : ∀ k, L ≤ k → k < w.heap.size → w'.heap[k]? = w.heap[k]?) (L' : Nat) (hL : L' ≤ L) : repRow L' w' v x := ⟨h.1.later h.2 hk, later_bd h.2 hs hL, h.3⟩
theorem repVers_mono (L : Nat) (w w' : World) (v : Value) (x : List Ver) (h : repVers L w v x) (hs : w.heap.size ≤ w'.heap.size) (hk : ∀ k, L ≤ k → k < w.heap.size → w'.heap[k]? = w.heap[k]?) (L' : Nat) (hL : L' ≤ L) : repVers L' w' v x := ⟨h.1.later h.2 hk, later_bd h.2 hs hL, h.3⟩
theorem repSrcs_mono (L : Nat) (w w' : World) (v : Value) (x : List Src) (h : repSrcs L w v x) (hs : w.heap.size ≤ w'.heap.size) (hk : ∀ k, L ≤ k → k < w.heap.size → w'.heap[k]? = w.heap[k]?) (L' : Nat) (hL : L' ≤ L) : repSrcs L' w' v x := ⟨h.1.later h.2 hk, later_bd h.2 hs hL, h.3⟩
theorem repInts_mono (L : Nat) (w w' : World) (v : Value) (x : List Int) (h : repInts L w v x) (hs : w.heap.size ≤ w'.heap.size) (hk : ∀ k, L ≤ k → k < w.heap.size → w'.heap[k]? = w.heap[k]?) (L' : Nat) (hL : L' ≤ L) : repInts L' w' v x := ⟨h.1.later h.2 hk, later_bd h.2 hs hL⟩
theorem repBag_mono (L : Nat) (w w' : World) (v : Value) (x : List En) (h : repBag L w v x) (hs : w.heap.size ≤ w'.heap.size) (hk : ∀ k, L ≤ k → k < w.heap.size → w'.heap[k]? = w.heap[k]?) (L' : Nat) (hL : L' ≤ L) : repBag L' w' v x := by
 obtain ⟨ps, h1, h2, h3, h4⟩ := h
 exact ⟨ps, h1, h2.later h3 hk, later_bd h3 hs hL, fun p hp => repRow_mono L w w' _ _ (h4 p hp) hs hk L' hL⟩
theorem repRec_mono (L : Nat) (w w' : World) (v : Value) (x : Rec) (h : repRec L w v x) (hs : w.heap.size ≤ w'.heap.size) (hk : ∀ k, L ≤ k → k < w.heap.size → w'.heap[k]? = w.heap[k]?) (L' : Nat) (hL : L' ≤ L) : repRec L' w' v x := by
 obtain ⟨r, q, h1, h2, h3⟩ := h
 exact ⟨r, q, h1, repRow_mono L w w' _ _ h2 hs hk L' hL, repInts_mono L w w' _ _ h3 hs hk L' hL⟩
theorem repCh_mono (L : Nat) (w w' : World) (v : Value) (x : Ch) (h : repCh L w v x) (hs : w.heap.size ≤ w'.heap.size) (hk : ∀ k, L ≤ k → k < w.heap.size → w'.heap[k]? = w.heap[k]?) (L' : Nat) (hL : L' ≤ L) : repCh L' w' v x := by
 obtain ⟨r, h1, h2⟩ := h
 exact ⟨r, h1, repRow_mono L w w' _ _ h2 hs hk L' hL⟩
end
end Go.Proofs.Ytkeiffccllfkpaa
