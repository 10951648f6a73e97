import Derived.Test.YtbfjfnbcmojpiaaGreatMA
namespace Go.Proofs.YtbfjfnbcmojpiaaGreat
open Go.RowKit
set_option linter.unusedSimpArgs false
set_option linter.unusedVariables false
structure St where
 a:BitVec 64
 b:BitVec 64
 c:BitVec 64
 d:BitVec 64
 e:BitVec 64
def scells (s:St):List Value:=[.int .u64 (wi s.a),.int .u64 (wi s.b),.int .u64 (wi s.c),.int .u64 (wi s.d),.int .u64 (wi s.e)]
def sval (s:St):Value:=.agg #[.int .u64 (wi s.a),.int .u64 (wi s.b),.int .u64 (wi s.c),.int .u64 (wi s.d),.int .u64 (wi s.e)]
def pre (k:Nat) (s:St):St:=
 ⟨((s.a ^^^ s.e) ^^^ (~~~s.b &&& ((s.c ^^^ BitVec.ofNat 64 (240 - 15 * k)) ^^^ s.b))) ^^^ ((s.e ^^^ s.d) ^^^ (~~~(s.a ^^^ s.e) &&& s.b)),
  (s.b ^^^ (~~~((s.c ^^^ BitVec.ofNat 64 (240 - 15 * k)) ^^^ s.b) &&& s.d)) ^^^ ((s.a ^^^ s.e) ^^^ (~~~s.b &&& ((s.c ^^^ BitVec.ofNat 64 (240 - 15 * k)) ^^^ s.b))),
  ~~~(((s.c ^^^ BitVec.ofNat 64 (240 - 15 * k)) ^^^ s.b) ^^^ (~~~s.d &&& (s.e ^^^ s.d))),
  (s.d ^^^ (~~~(s.e ^^^ s.d) &&& (s.a ^^^ s.e))) ^^^ (((s.c ^^^ BitVec.ofNat 64 (240 - 15 * k)) ^^^ s.b) ^^^ (~~~s.d &&& (s.e ^^^ s.d))),
  (s.e ^^^ s.d) ^^^ (~~~(s.a ^^^ s.e) &&& s.b)⟩
def rnd (k:Nat) (s:St):St:=⟨mixd (pre k s).a 19 28,mixd (pre k s).b 61 39,mixd (pre k s).c 1 6,mixd (pre k s).d 10 17,mixd (pre k s).e 7 41⟩
theorem bits_not (x:BitVec 64):bits .xor .u64 IntKind.u64.max (wi x)=wi (~~~x):=by
 have e:IntKind.u64.max=wi (BitVec.allOnes 64):=by decide
 rw [e,bits_xor,BitVec.xor_comm,BitVec.xor_allOnes]
theorem rc_wi {k:Nat} (hk:k < 12):240 - 15 * (k:Int)=wi (BitVec.ofNat 64 (240 - 15 * k)):=by
 unfold wi
 rw [BitVec.toNat_ofNat]
 omega
theorem pre_eq {k:Nat} (hk:k < 12) (S:St) {A B C D E C5 A6 E7 C8 T0 T1 T2 T3 T4 A10 B11 C12 D13 E14 B15 A16 D17 C18:Int} (hA:A=wi S.a) (hB:B=wi S.b) (hC:C=wi S.c) (hD:D=wi S.d) (hE:E=wi S.e)
   (h5:C5=bits .xor .u64 C (240 - 15 * (k:Int))) (h6:A6=bits .xor .u64 A E) (h7:E7=bits .xor .u64 E D) (h8:C8=bits .xor .u64 C5 B)
   (h9:T0=bits .and .u64 (bits .xor .u64 IntKind.u64.max A6) B∧T1=bits .and .u64 (bits .xor .u64 IntKind.u64.max B) C8∧T2=bits .and .u64 (bits .xor .u64 IntKind.u64.max C8) D∧T3=bits .and .u64 (bits .xor .u64 IntKind.u64.max D) E7∧T4=bits .and .u64 (bits .xor .u64 IntKind.u64.max E7) A6)
   (h10:A10=bits .xor .u64 A6 T1) (h11:B11=bits .xor .u64 B T2) (h12:C12=bits .xor .u64 C8 T3) (h13:D13=bits .xor .u64 D T4) (h14:E14=bits .xor .u64 E7 T0) (h15:B15=bits .xor .u64 B11 A10) (h16:A16=bits .xor .u64 A10 E14) (h17:D17=bits .xor .u64 D13 C12) (h18:C18=bits .xor .u64 IntKind.u64.max C12) :
   A16=wi (pre k S).a∧B15=wi (pre k S).b∧C18=wi (pre k S).c∧D17=wi (pre k S).d∧E14=wi (pre k S).e:=by
 obtain ⟨g0,g1,g2,g3,g4⟩:=h9
 rw [rc_wi hk] at h5
 subst hA hB hC hD hE h5 h6 h7 h8 g0 g1 g2 g3 g4 h10 h11 h12 h13 h14 h15 h16 h17 h18
 simp only [bits_xor,bits_not,bits_and]
 exact ⟨rfl,rfl,rfl,rfl,rfl⟩
def perm (s:St):St:=(List.range 12).foldl (fun s k=>rnd k s) s
theorem perm_snoc (k:Nat) (s:St):(List.range (k+1)).foldl (fun s k=>rnd k s) s=rnd k ((List.range k).foldl (fun s k=>rnd k s) s):=by
 rw [List.range_succ,List.foldl_append];rfl
theorem tySt (s:St):TY Tryz.prog 105 (scells s) (sval s):=TY.agg Tryz.underlying105 rfl (by kernel_rfl) (by simp [scells,Value.oneCell'])
theorem row0 {w:World} {R:Nat} {T:TypeId} {a b c d e v:Value} (h:w.heap[R]?=some (.cells #[a,b,c,d,e] T (0,0))):(w.setCell ⟨R,0,none⟩ v).heap[R]?=some (.cells #[v,b,c,d,e] T (0,0)):=by simpa using heap_setCell_same w R 0 _ T v h
theorem row1 {w:World} {R:Nat} {T:TypeId} {a b c d e v:Value} (h:w.heap[R]?=some (.cells #[a,b,c,d,e] T (0,0))):(w.setCell ⟨R,1,none⟩ v).heap[R]?=some (.cells #[a,v,c,d,e] T (0,0)):=by simpa using heap_setCell_same w R 1 _ T v h
theorem row2 {w:World} {R:Nat} {T:TypeId} {a b c d e v:Value} (h:w.heap[R]?=some (.cells #[a,b,c,d,e] T (0,0))):(w.setCell ⟨R,2,none⟩ v).heap[R]?=some (.cells #[a,b,v,d,e] T (0,0)):=by simpa using heap_setCell_same w R 2 _ T v h
theorem row3 {w:World} {R:Nat} {T:TypeId} {a b c d e v:Value} (h:w.heap[R]?=some (.cells #[a,b,c,d,e] T (0,0))):(w.setCell ⟨R,3,none⟩ v).heap[R]?=some (.cells #[a,b,c,v,e] T (0,0)):=by simpa using heap_setCell_same w R 3 _ T v h
theorem row4 {w:World} {R:Nat} {T:TypeId} {a b c d e v:Value} (h:w.heap[R]?=some (.cells #[a,b,c,d,e] T (0,0))):(w.setCell ⟨R,4,none⟩ v).heap[R]?=some (.cells #[a,b,c,d,v] T (0,0)):=by simpa using heap_setCell_same w R 4 _ T v h
theorem pause {K:Act→World→Prop} {a:Act} {w:World} {R i:Nat} {n:Int} (h:∀ (X:Int) (w':World),Hid (X=n)→Hid (w.grownBy w' (some R))→Hid (w'=w.setCell ⟨R,i,none⟩ (.int .u64 X))→K a w'):K a (w.setCell ⟨R,i,none⟩ (.int .u64 n)):=
 h n _ (hid rfl) (hid (grown_setCell w ⟨R,i,none⟩ (.int .u64 n))) (hid rfl)
theorem pauseA {K:Act→World→Prop} {a:Act} {w:World} {n0 n1 n2 n3 n4:Int} (h:∀ (X0 X1 X2 X3 X4:Int) (w':World),Hid (X0=n0∧X1=n1∧X2=n2∧X3=n3∧X4=n4)→Hid (w.grownBy w' none)→Hid (w'.heap[w.heap.size]?=some (.cells #[.int .u64 X0,.int .u64 X1,.int .u64 X2,.int .u64 X3,.int .u64 X4] 105 (0,0)))→K a w') :
   K a (w.alloc (.cells #[.int .u64 n0,.int .u64 n1,.int .u64 n2,.int .u64 n3,.int .u64 n4] 105)):=
 h n0 n1 n2 n3 n4 _ (hid ⟨rfl,rfl,rfl,rfl,rfl⟩) (hid (World.grownBy_alloc _ _ _)) (hid (heap_at rfl))
theorem mixed_call {X:Int} (x:BitVec 64) (hX:X=wi x) (a b:Int) (s t:Nat) (hs:s < 64) (ht:t < 64) (ha:-64 < -a∧-a < 0) (hb:-64 < -b∧-b < 0) (h1:bits .and .u64 (IntKind.u64.wrap (-a)) 63=(s:Int)) (h2:bits .and .u64 (IntKind.u64.wrap (-b)) 63=(t:Int)) (w:World) :
   Calls Tryz.prog 157 #[.int .u64 X,.int .i64 a,.int .i64 b] w fun e w'=>e=.returned (.int .u64 (wi (mixd x (64 - s) (64 - t))))∧w'=w:=by
 subst hX
 exact mixed_walk x a b s t hs ht ha hb h1 h2 w
set_option maxRecDepth 100000 in
set_option maxHeartbeats 8000000 in
theorem perm_walk (s:St) (w:World):Calls Tryz.prog 150 #[sval s] w fun e w'=>e=.returned (sval (perm s))∧w.grownBy w' none:=by
 unfold sval
 obtain ⟨R,hR⟩:∃ R,R=w.heap.size:=⟨_,rfl⟩
 have HRR:=hid hR
 go_enter Tryz.func150,Tryz.ntmps150
 go_wp2
 rw [← hR]
 have hR2:=hid hR
 clear hR
 go_loopw [5] (fun i wr=>∃ (k:Nat) (S:St),k≤12∧i=.int .i64 k∧Hid (S=(List.range k).foldl (fun s k=>rnd k s) s)∧Hid (w.grownBy wr none)∧Hid (wr.heap[R+1]?=some (.cells #[.int .u64 0,.int .u64 0,.int .u64 0,.int .u64 0,.int .u64 0] 105 (0,0)))∧Hid (wr.heap[R]?=some (.cells #[.int .u64 (wi S.a),.int .u64 (wi S.b),.int .u64 (wi S.c),.int .u64 (wi S.d),.int .u64 (wi S.e)] 105 (0,0)))) (fun i _=>12 - (intOf i).toNat)
 case atStart =>
   rw [hR2.out]
   exact ⟨0,s,by omega,rfl,hid rfl,hid (grown_trans (World.grownBy_alloc _ _ _) (World.grownBy_alloc _ _ _)),hid (heap_at (by simp)),hid (by rw [heap_past (by simp),heap_at rfl])⟩
 case round =>
   obtain ⟨k,S,hk,rfl,HS,HG,HZ,HB⟩:=hrel
   by_cases hlt:k < 12
   · have t1:decide ((k:Int) < 12)=true:=by simp;omega
     have i1:(0:Int)≤(k:Int):=by omega
     have i2:(k:Int) < 12:=by omega
     obtain ⟨A,HA⟩:∃ A,Hid (A=wi S.a):=⟨_,hid rfl⟩
     obtain ⟨B,HBB⟩:∃ B,Hid (B=wi S.b):=⟨_,hid rfl⟩
     obtain ⟨C,HC⟩:∃ C,Hid (C=wi S.c):=⟨_,hid rfl⟩
     obtain ⟨D,HD⟩:∃ D,Hid (D=wi S.d):=⟨_,hid rfl⟩
     obtain ⟨E,HE⟩:∃ E,Hid (E=wi S.e):=⟨_,hid rfl⟩
     rw [← HA.out,← HBB.out,← HC.out,← HD.out,← HE.out] at HB
     refine wp_seq_k fun K1 k1=>?_
     have HK1:=hid k1
     clear k1
     go_wp2
     refine HK1.out _ _ ?_
     refine wp_seq_k fun K2 k2=>?_
     have HK2:=hid k2
     clear k2
     go_wp2
     refine HK2.out _ _ ?_
     refine wp_seq_k fun K3 k3=>?_
     have HK3:=hid k3
     clear k3
     refine wp_block ?_
     refine wp_seq_k fun K4 k4=>?_
     have HK4:=hid k4
     clear k4
     go_wp2
     refine HK4.out _ _ ?_
     have c0:wr.cell? ⟨R,0,none⟩=some (.int .u64 A):=by rw [cell_of_row _ _ _ _ _ _ HB.out];rfl
     have c1:wr.cell? ⟨R,1,none⟩=some (.int .u64 B):=by rw [cell_of_row _ _ _ _ _ _ HB.out];rfl
     have c2:wr.cell? ⟨R,2,none⟩=some (.int .u64 C):=by rw [cell_of_row _ _ _ _ _ _ HB.out];rfl
     have c3:wr.cell? ⟨R,3,none⟩=some (.int .u64 D):=by rw [cell_of_row _ _ _ _ _ _ HB.out];rfl
     have c4:wr.cell? ⟨R,4,none⟩=some (.int .u64 E):=by rw [cell_of_row _ _ _ _ _ _ HB.out];rfl
     have f0:wr.frozen? ⟨R,0,none⟩=false:=frozen_of_row _ _ _ _ _ HB.out
     have f1:wr.frozen? ⟨R,1,none⟩=false:=frozen_of_row _ _ _ _ _ HB.out
     have f2:wr.frozen? ⟨R,2,none⟩=false:=frozen_of_row _ _ _ _ _ HB.out
     have f3:wr.frozen? ⟨R,3,none⟩=false:=frozen_of_row _ _ _ _ _ HB.out
     have f4:wr.frozen? ⟨R,4,none⟩=false:=frozen_of_row _ _ _ _ _ HB.out
     have y0:R < wr.heap.size:=block_lt_of_cell c0
     refine wp_seq_k fun K5 k5=>?_
     have HK5:=hid k5
     clear k5
     go_wp2
     refine pause fun C5 v5 HX5 HG5 HW5=>?_
     clear c0 c1 c2 c3 c4 f0 f1 f2 f3 f4 y0
     replace HB:=hid (row2 (v:=.int .u64 C5) HB.out)
     rw [← HW5.out] at HB
     replace HZ:=hid (row_of HG5.out HZ.out (by simp))
     replace HG:=hid (grown_newR HG.out HG5.out (by rw [HRR.out];exact Nat.le_refl _))
     refine HK5.out _ _ ?_
     have c0:v5.cell? ⟨R,0,none⟩=some (.int .u64 A):=by rw [cell_of_row _ _ _ _ _ _ HB.out];rfl
     have c1:v5.cell? ⟨R,1,none⟩=some (.int .u64 B):=by rw [cell_of_row _ _ _ _ _ _ HB.out];rfl
     have c2:v5.cell? ⟨R,2,none⟩=some (.int .u64 C5):=by rw [cell_of_row _ _ _ _ _ _ HB.out];rfl
     have c3:v5.cell? ⟨R,3,none⟩=some (.int .u64 D):=by rw [cell_of_row _ _ _ _ _ _ HB.out];rfl
     have c4:v5.cell? ⟨R,4,none⟩=some (.int .u64 E):=by rw [cell_of_row _ _ _ _ _ _ HB.out];rfl
     have f0:v5.frozen? ⟨R,0,none⟩=false:=frozen_of_row _ _ _ _ _ HB.out
     have f1:v5.frozen? ⟨R,1,none⟩=false:=frozen_of_row _ _ _ _ _ HB.out
     have f2:v5.frozen? ⟨R,2,none⟩=false:=frozen_of_row _ _ _ _ _ HB.out
     have f3:v5.frozen? ⟨R,3,none⟩=false:=frozen_of_row _ _ _ _ _ HB.out
     have f4:v5.frozen? ⟨R,4,none⟩=false:=frozen_of_row _ _ _ _ _ HB.out
     have y0:R < v5.heap.size:=block_lt_of_cell c0
     refine wp_seq_k fun K6 k6=>?_
     have HK6:=hid k6
     clear k6
     go_wp2
     refine pause fun A6 v6 HX6 HG6 HW6=>?_
     clear c0 c1 c2 c3 c4 f0 f1 f2 f3 f4 y0
     replace HB:=hid (row0 (v:=.int .u64 A6) HB.out)
     rw [← HW6.out] at HB
     replace HZ:=hid (row_of HG6.out HZ.out (by simp))
     replace HG:=hid (grown_newR HG.out HG6.out (by rw [HRR.out];exact Nat.le_refl _))
     refine HK6.out _ _ ?_
     have c0:v6.cell? ⟨R,0,none⟩=some (.int .u64 A6):=by rw [cell_of_row _ _ _ _ _ _ HB.out];rfl
     have c1:v6.cell? ⟨R,1,none⟩=some (.int .u64 B):=by rw [cell_of_row _ _ _ _ _ _ HB.out];rfl
     have c2:v6.cell? ⟨R,2,none⟩=some (.int .u64 C5):=by rw [cell_of_row _ _ _ _ _ _ HB.out];rfl
     have c3:v6.cell? ⟨R,3,none⟩=some (.int .u64 D):=by rw [cell_of_row _ _ _ _ _ _ HB.out];rfl
     have c4:v6.cell? ⟨R,4,none⟩=some (.int .u64 E):=by rw [cell_of_row _ _ _ _ _ _ HB.out];rfl
     have f0:v6.frozen? ⟨R,0,none⟩=false:=frozen_of_row _ _ _ _ _ HB.out
     have f1:v6.frozen? ⟨R,1,none⟩=false:=frozen_of_row _ _ _ _ _ HB.out
     have f2:v6.frozen? ⟨R,2,none⟩=false:=frozen_of_row _ _ _ _ _ HB.out
     have f3:v6.frozen? ⟨R,3,none⟩=false:=frozen_of_row _ _ _ _ _ HB.out
     have f4:v6.frozen? ⟨R,4,none⟩=false:=frozen_of_row _ _ _ _ _ HB.out
     have y0:R < v6.heap.size:=block_lt_of_cell c0
     refine wp_seq_k fun K7 k7=>?_
     have HK7:=hid k7
     clear k7
     go_wp2
     refine pause fun E7 v7 HX7 HG7 HW7=>?_
     clear c0 c1 c2 c3 c4 f0 f1 f2 f3 f4 y0
     replace HB:=hid (row4 (v:=.int .u64 E7) HB.out)
     rw [← HW7.out] at HB
     replace HZ:=hid (row_of HG7.out HZ.out (by simp))
     replace HG:=hid (grown_newR HG.out HG7.out (by rw [HRR.out];exact Nat.le_refl _))
     refine HK7.out _ _ ?_
     have c0:v7.cell? ⟨R,0,none⟩=some (.int .u64 A6):=by rw [cell_of_row _ _ _ _ _ _ HB.out];rfl
     have c1:v7.cell? ⟨R,1,none⟩=some (.int .u64 B):=by rw [cell_of_row _ _ _ _ _ _ HB.out];rfl
     have c2:v7.cell? ⟨R,2,none⟩=some (.int .u64 C5):=by rw [cell_of_row _ _ _ _ _ _ HB.out];rfl
     have c3:v7.cell? ⟨R,3,none⟩=some (.int .u64 D):=by rw [cell_of_row _ _ _ _ _ _ HB.out];rfl
     have c4:v7.cell? ⟨R,4,none⟩=some (.int .u64 E7):=by rw [cell_of_row _ _ _ _ _ _ HB.out];rfl
     have f0:v7.frozen? ⟨R,0,none⟩=false:=frozen_of_row _ _ _ _ _ HB.out
     have f1:v7.frozen? ⟨R,1,none⟩=false:=frozen_of_row _ _ _ _ _ HB.out
     have f2:v7.frozen? ⟨R,2,none⟩=false:=frozen_of_row _ _ _ _ _ HB.out
     have f3:v7.frozen? ⟨R,3,none⟩=false:=frozen_of_row _ _ _ _ _ HB.out
     have f4:v7.frozen? ⟨R,4,none⟩=false:=frozen_of_row _ _ _ _ _ HB.out
     have y0:R < v7.heap.size:=block_lt_of_cell c0
     refine wp_seq_k fun K8 k8=>?_
     have HK8:=hid k8
     clear k8
     go_wp2
     refine pause fun C8 v8 HX8 HG8 HW8=>?_
     clear c0 c1 c2 c3 c4 f0 f1 f2 f3 f4 y0
     replace HB:=hid (row2 (v:=.int .u64 C8) HB.out)
     rw [← HW8.out] at HB
     replace HZ:=hid (row_of HG8.out HZ.out (by simp))
     replace HG:=hid (grown_newR HG.out HG8.out (by rw [HRR.out];exact Nat.le_refl _))
     refine HK8.out _ _ ?_
     have c0:v8.cell? ⟨R,0,none⟩=some (.int .u64 A6):=by rw [cell_of_row _ _ _ _ _ _ HB.out];rfl
     have c1:v8.cell? ⟨R,1,none⟩=some (.int .u64 B):=by rw [cell_of_row _ _ _ _ _ _ HB.out];rfl
     have c2:v8.cell? ⟨R,2,none⟩=some (.int .u64 C8):=by rw [cell_of_row _ _ _ _ _ _ HB.out];rfl
     have c3:v8.cell? ⟨R,3,none⟩=some (.int .u64 D):=by rw [cell_of_row _ _ _ _ _ _ HB.out];rfl
     have c4:v8.cell? ⟨R,4,none⟩=some (.int .u64 E7):=by rw [cell_of_row _ _ _ _ _ _ HB.out];rfl
     have y0:R < v8.heap.size:=block_lt_of_cell c0
     refine wp_seq_k fun K9 k9=>?_
     have HK9:=hid k9
     clear k9
     go_wp2
     refine pauseA fun T0 T1 T2 T3 T4 v9 HX9 HG9 HT=>?_
     obtain ⟨Tb,hTb⟩:∃ b,b=v8.heap.size:=⟨_,rfl⟩
     rw [← hTb] at HT ⊢
     have hTR:¬ Tb=R:=by omega
     have HTb:=hid hTb
     clear hTb c0 c1 c2 c3 c4 y0
     replace HB:=hid (row_of HG9.out HB.out (by simp))
     replace HZ:=hid (row_of HG9.out HZ.out (by simp))
     replace HG:=hid (grown_trans HG.out HG9.out)
     refine HK9.out _ _ ?_
     have c0:v9.cell? ⟨R,0,none⟩=some (.int .u64 A6):=by rw [cell_of_row _ _ _ _ _ _ HB.out];rfl
     have c1:v9.cell? ⟨R,1,none⟩=some (.int .u64 B):=by rw [cell_of_row _ _ _ _ _ _ HB.out];rfl
     have c2:v9.cell? ⟨R,2,none⟩=some (.int .u64 C8):=by rw [cell_of_row _ _ _ _ _ _ HB.out];rfl
     have c3:v9.cell? ⟨R,3,none⟩=some (.int .u64 D):=by rw [cell_of_row _ _ _ _ _ _ HB.out];rfl
     have c4:v9.cell? ⟨R,4,none⟩=some (.int .u64 E7):=by rw [cell_of_row _ _ _ _ _ _ HB.out];rfl
     have f0:v9.frozen? ⟨R,0,none⟩=false:=frozen_of_row _ _ _ _ _ HB.out
     have f1:v9.frozen? ⟨R,1,none⟩=false:=frozen_of_row _ _ _ _ _ HB.out
     have f2:v9.frozen? ⟨R,2,none⟩=false:=frozen_of_row _ _ _ _ _ HB.out
     have f3:v9.frozen? ⟨R,3,none⟩=false:=frozen_of_row _ _ _ _ _ HB.out
     have f4:v9.frozen? ⟨R,4,none⟩=false:=frozen_of_row _ _ _ _ _ HB.out
     have y0:R < v9.heap.size:=block_lt_of_cell c0
     have t_0:v9.cell? ⟨Tb,0,none⟩=some (.int .u64 T0):=by rw [cell_of_row _ _ _ _ _ _ HT.out];rfl
     have t_1:v9.cell? ⟨Tb,1,none⟩=some (.int .u64 T1):=by rw [cell_of_row _ _ _ _ _ _ HT.out];rfl
     have t_2:v9.cell? ⟨Tb,2,none⟩=some (.int .u64 T2):=by rw [cell_of_row _ _ _ _ _ _ HT.out];rfl
     have t_3:v9.cell? ⟨Tb,3,none⟩=some (.int .u64 T3):=by rw [cell_of_row _ _ _ _ _ _ HT.out];rfl
     have t_4:v9.cell? ⟨Tb,4,none⟩=some (.int .u64 T4):=by rw [cell_of_row _ _ _ _ _ _ HT.out];rfl
     refine wp_seq_k fun K10 k10=>?_
     have HK10:=hid k10
     clear k10
     go_wp2
     refine pause fun A10 v10 HX10 HG10 HW10=>?_
     clear c0 c1 c2 c3 c4 f0 f1 f2 f3 f4 t_0 t_1 t_2 t_3 t_4 y0
     replace HB:=hid (row0 (v:=.int .u64 A10) HB.out)
     rw [← HW10.out] at HB
     replace HT:=hid (row_of HG10.out HT.out (by simpa using hTR))
     replace HZ:=hid (row_of HG10.out HZ.out (by simp))
     replace HG:=hid (grown_newR HG.out HG10.out (by rw [HRR.out];exact Nat.le_refl _))
     refine HK10.out _ _ ?_
     have c0:v10.cell? ⟨R,0,none⟩=some (.int .u64 A10):=by rw [cell_of_row _ _ _ _ _ _ HB.out];rfl
     have c1:v10.cell? ⟨R,1,none⟩=some (.int .u64 B):=by rw [cell_of_row _ _ _ _ _ _ HB.out];rfl
     have c2:v10.cell? ⟨R,2,none⟩=some (.int .u64 C8):=by rw [cell_of_row _ _ _ _ _ _ HB.out];rfl
     have c3:v10.cell? ⟨R,3,none⟩=some (.int .u64 D):=by rw [cell_of_row _ _ _ _ _ _ HB.out];rfl
     have c4:v10.cell? ⟨R,4,none⟩=some (.int .u64 E7):=by rw [cell_of_row _ _ _ _ _ _ HB.out];rfl
     have f0:v10.frozen? ⟨R,0,none⟩=false:=frozen_of_row _ _ _ _ _ HB.out
     have f1:v10.frozen? ⟨R,1,none⟩=false:=frozen_of_row _ _ _ _ _ HB.out
     have f2:v10.frozen? ⟨R,2,none⟩=false:=frozen_of_row _ _ _ _ _ HB.out
     have f3:v10.frozen? ⟨R,3,none⟩=false:=frozen_of_row _ _ _ _ _ HB.out
     have f4:v10.frozen? ⟨R,4,none⟩=false:=frozen_of_row _ _ _ _ _ HB.out
     have y0:R < v10.heap.size:=block_lt_of_cell c0
     have t_0:v10.cell? ⟨Tb,0,none⟩=some (.int .u64 T0):=by rw [cell_of_row _ _ _ _ _ _ HT.out];rfl
     have t_1:v10.cell? ⟨Tb,1,none⟩=some (.int .u64 T1):=by rw [cell_of_row _ _ _ _ _ _ HT.out];rfl
     have t_2:v10.cell? ⟨Tb,2,none⟩=some (.int .u64 T2):=by rw [cell_of_row _ _ _ _ _ _ HT.out];rfl
     have t_3:v10.cell? ⟨Tb,3,none⟩=some (.int .u64 T3):=by rw [cell_of_row _ _ _ _ _ _ HT.out];rfl
     have t_4:v10.cell? ⟨Tb,4,none⟩=some (.int .u64 T4):=by rw [cell_of_row _ _ _ _ _ _ HT.out];rfl
     refine wp_seq_k fun K11 k11=>?_
     have HK11:=hid k11
     clear k11
     go_wp2
     refine pause fun B11 v11 HX11 HG11 HW11=>?_
     clear c0 c1 c2 c3 c4 f0 f1 f2 f3 f4 t_0 t_1 t_2 t_3 t_4 y0
     replace HB:=hid (row1 (v:=.int .u64 B11) HB.out)
     rw [← HW11.out] at HB
     replace HT:=hid (row_of HG11.out HT.out (by simpa using hTR))
     replace HZ:=hid (row_of HG11.out HZ.out (by simp))
     replace HG:=hid (grown_newR HG.out HG11.out (by rw [HRR.out];exact Nat.le_refl _))
     refine HK11.out _ _ ?_
     have c0:v11.cell? ⟨R,0,none⟩=some (.int .u64 A10):=by rw [cell_of_row _ _ _ _ _ _ HB.out];rfl
     have c1:v11.cell? ⟨R,1,none⟩=some (.int .u64 B11):=by rw [cell_of_row _ _ _ _ _ _ HB.out];rfl
     have c2:v11.cell? ⟨R,2,none⟩=some (.int .u64 C8):=by rw [cell_of_row _ _ _ _ _ _ HB.out];rfl
     have c3:v11.cell? ⟨R,3,none⟩=some (.int .u64 D):=by rw [cell_of_row _ _ _ _ _ _ HB.out];rfl
     have c4:v11.cell? ⟨R,4,none⟩=some (.int .u64 E7):=by rw [cell_of_row _ _ _ _ _ _ HB.out];rfl
     have f0:v11.frozen? ⟨R,0,none⟩=false:=frozen_of_row _ _ _ _ _ HB.out
     have f1:v11.frozen? ⟨R,1,none⟩=false:=frozen_of_row _ _ _ _ _ HB.out
     have f2:v11.frozen? ⟨R,2,none⟩=false:=frozen_of_row _ _ _ _ _ HB.out
     have f3:v11.frozen? ⟨R,3,none⟩=false:=frozen_of_row _ _ _ _ _ HB.out
     have f4:v11.frozen? ⟨R,4,none⟩=false:=frozen_of_row _ _ _ _ _ HB.out
     have y0:R < v11.heap.size:=block_lt_of_cell c0
     have t_0:v11.cell? ⟨Tb,0,none⟩=some (.int .u64 T0):=by rw [cell_of_row _ _ _ _ _ _ HT.out];rfl
     have t_1:v11.cell? ⟨Tb,1,none⟩=some (.int .u64 T1):=by rw [cell_of_row _ _ _ _ _ _ HT.out];rfl
     have t_2:v11.cell? ⟨Tb,2,none⟩=some (.int .u64 T2):=by rw [cell_of_row _ _ _ _ _ _ HT.out];rfl
     have t_3:v11.cell? ⟨Tb,3,none⟩=some (.int .u64 T3):=by rw [cell_of_row _ _ _ _ _ _ HT.out];rfl
     have t_4:v11.cell? ⟨Tb,4,none⟩=some (.int .u64 T4):=by rw [cell_of_row _ _ _ _ _ _ HT.out];rfl
     refine wp_seq_k fun K12 k12=>?_
     have HK12:=hid k12
     clear k12
     go_wp2
     refine pause fun C12 v12 HX12 HG12 HW12=>?_
     clear c0 c1 c2 c3 c4 f0 f1 f2 f3 f4 t_0 t_1 t_2 t_3 t_4 y0
     replace HB:=hid (row2 (v:=.int .u64 C12) HB.out)
     rw [← HW12.out] at HB
     replace HT:=hid (row_of HG12.out HT.out (by simpa using hTR))
     replace HZ:=hid (row_of HG12.out HZ.out (by simp))
     replace HG:=hid (grown_newR HG.out HG12.out (by rw [HRR.out];exact Nat.le_refl _))
     refine HK12.out _ _ ?_
     have c0:v12.cell? ⟨R,0,none⟩=some (.int .u64 A10):=by rw [cell_of_row _ _ _ _ _ _ HB.out];rfl
     have c1:v12.cell? ⟨R,1,none⟩=some (.int .u64 B11):=by rw [cell_of_row _ _ _ _ _ _ HB.out];rfl
     have c2:v12.cell? ⟨R,2,none⟩=some (.int .u64 C12):=by rw [cell_of_row _ _ _ _ _ _ HB.out];rfl
     have c3:v12.cell? ⟨R,3,none⟩=some (.int .u64 D):=by rw [cell_of_row _ _ _ _ _ _ HB.out];rfl
     have c4:v12.cell? ⟨R,4,none⟩=some (.int .u64 E7):=by rw [cell_of_row _ _ _ _ _ _ HB.out];rfl
     have f0:v12.frozen? ⟨R,0,none⟩=false:=frozen_of_row _ _ _ _ _ HB.out
     have f1:v12.frozen? ⟨R,1,none⟩=false:=frozen_of_row _ _ _ _ _ HB.out
     have f2:v12.frozen? ⟨R,2,none⟩=false:=frozen_of_row _ _ _ _ _ HB.out
     have f3:v12.frozen? ⟨R,3,none⟩=false:=frozen_of_row _ _ _ _ _ HB.out
     have f4:v12.frozen? ⟨R,4,none⟩=false:=frozen_of_row _ _ _ _ _ HB.out
     have y0:R < v12.heap.size:=block_lt_of_cell c0
     have t_0:v12.cell? ⟨Tb,0,none⟩=some (.int .u64 T0):=by rw [cell_of_row _ _ _ _ _ _ HT.out];rfl
     have t_1:v12.cell? ⟨Tb,1,none⟩=some (.int .u64 T1):=by rw [cell_of_row _ _ _ _ _ _ HT.out];rfl
     have t_2:v12.cell? ⟨Tb,2,none⟩=some (.int .u64 T2):=by rw [cell_of_row _ _ _ _ _ _ HT.out];rfl
     have t_3:v12.cell? ⟨Tb,3,none⟩=some (.int .u64 T3):=by rw [cell_of_row _ _ _ _ _ _ HT.out];rfl
     have t_4:v12.cell? ⟨Tb,4,none⟩=some (.int .u64 T4):=by rw [cell_of_row _ _ _ _ _ _ HT.out];rfl
     refine wp_seq_k fun K13 k13=>?_
     have HK13:=hid k13
     clear k13
     go_wp2
     refine pause fun D13 v13 HX13 HG13 HW13=>?_
     clear c0 c1 c2 c3 c4 f0 f1 f2 f3 f4 t_0 t_1 t_2 t_3 t_4 y0
     replace HB:=hid (row3 (v:=.int .u64 D13) HB.out)
     rw [← HW13.out] at HB
     replace HT:=hid (row_of HG13.out HT.out (by simpa using hTR))
     replace HZ:=hid (row_of HG13.out HZ.out (by simp))
     replace HG:=hid (grown_newR HG.out HG13.out (by rw [HRR.out];exact Nat.le_refl _))
     refine HK13.out _ _ ?_
     have c0:v13.cell? ⟨R,0,none⟩=some (.int .u64 A10):=by rw [cell_of_row _ _ _ _ _ _ HB.out];rfl
     have c1:v13.cell? ⟨R,1,none⟩=some (.int .u64 B11):=by rw [cell_of_row _ _ _ _ _ _ HB.out];rfl
     have c2:v13.cell? ⟨R,2,none⟩=some (.int .u64 C12):=by rw [cell_of_row _ _ _ _ _ _ HB.out];rfl
     have c3:v13.cell? ⟨R,3,none⟩=some (.int .u64 D13):=by rw [cell_of_row _ _ _ _ _ _ HB.out];rfl
     have c4:v13.cell? ⟨R,4,none⟩=some (.int .u64 E7):=by rw [cell_of_row _ _ _ _ _ _ HB.out];rfl
     have f0:v13.frozen? ⟨R,0,none⟩=false:=frozen_of_row _ _ _ _ _ HB.out
     have f1:v13.frozen? ⟨R,1,none⟩=false:=frozen_of_row _ _ _ _ _ HB.out
     have f2:v13.frozen? ⟨R,2,none⟩=false:=frozen_of_row _ _ _ _ _ HB.out
     have f3:v13.frozen? ⟨R,3,none⟩=false:=frozen_of_row _ _ _ _ _ HB.out
     have f4:v13.frozen? ⟨R,4,none⟩=false:=frozen_of_row _ _ _ _ _ HB.out
     have y0:R < v13.heap.size:=block_lt_of_cell c0
     have t_0:v13.cell? ⟨Tb,0,none⟩=some (.int .u64 T0):=by rw [cell_of_row _ _ _ _ _ _ HT.out];rfl
     have t_1:v13.cell? ⟨Tb,1,none⟩=some (.int .u64 T1):=by rw [cell_of_row _ _ _ _ _ _ HT.out];rfl
     have t_2:v13.cell? ⟨Tb,2,none⟩=some (.int .u64 T2):=by rw [cell_of_row _ _ _ _ _ _ HT.out];rfl
     have t_3:v13.cell? ⟨Tb,3,none⟩=some (.int .u64 T3):=by rw [cell_of_row _ _ _ _ _ _ HT.out];rfl
     have t_4:v13.cell? ⟨Tb,4,none⟩=some (.int .u64 T4):=by rw [cell_of_row _ _ _ _ _ _ HT.out];rfl
     refine wp_seq_k fun K14 k14=>?_
     have HK14:=hid k14
     clear k14
     go_wp2
     refine pause fun E14 v14 HX14 HG14 HW14=>?_
     clear c0 c1 c2 c3 c4 f0 f1 f2 f3 f4 t_0 t_1 t_2 t_3 t_4 y0
     replace HB:=hid (row4 (v:=.int .u64 E14) HB.out)
     rw [← HW14.out] at HB
     replace HT:=hid (row_of HG14.out HT.out (by simpa using hTR))
     replace HZ:=hid (row_of HG14.out HZ.out (by simp))
     replace HG:=hid (grown_newR HG.out HG14.out (by rw [HRR.out];exact Nat.le_refl _))
     refine HK14.out _ _ ?_
     have c0:v14.cell? ⟨R,0,none⟩=some (.int .u64 A10):=by rw [cell_of_row _ _ _ _ _ _ HB.out];rfl
     have c1:v14.cell? ⟨R,1,none⟩=some (.int .u64 B11):=by rw [cell_of_row _ _ _ _ _ _ HB.out];rfl
     have c2:v14.cell? ⟨R,2,none⟩=some (.int .u64 C12):=by rw [cell_of_row _ _ _ _ _ _ HB.out];rfl
     have c3:v14.cell? ⟨R,3,none⟩=some (.int .u64 D13):=by rw [cell_of_row _ _ _ _ _ _ HB.out];rfl
     have c4:v14.cell? ⟨R,4,none⟩=some (.int .u64 E14):=by rw [cell_of_row _ _ _ _ _ _ HB.out];rfl
     have f0:v14.frozen? ⟨R,0,none⟩=false:=frozen_of_row _ _ _ _ _ HB.out
     have f1:v14.frozen? ⟨R,1,none⟩=false:=frozen_of_row _ _ _ _ _ HB.out
     have f2:v14.frozen? ⟨R,2,none⟩=false:=frozen_of_row _ _ _ _ _ HB.out
     have f3:v14.frozen? ⟨R,3,none⟩=false:=frozen_of_row _ _ _ _ _ HB.out
     have f4:v14.frozen? ⟨R,4,none⟩=false:=frozen_of_row _ _ _ _ _ HB.out
     have y0:R < v14.heap.size:=block_lt_of_cell c0
     have t_0:v14.cell? ⟨Tb,0,none⟩=some (.int .u64 T0):=by rw [cell_of_row _ _ _ _ _ _ HT.out];rfl
     have t_1:v14.cell? ⟨Tb,1,none⟩=some (.int .u64 T1):=by rw [cell_of_row _ _ _ _ _ _ HT.out];rfl
     have t_2:v14.cell? ⟨Tb,2,none⟩=some (.int .u64 T2):=by rw [cell_of_row _ _ _ _ _ _ HT.out];rfl
     have t_3:v14.cell? ⟨Tb,3,none⟩=some (.int .u64 T3):=by rw [cell_of_row _ _ _ _ _ _ HT.out];rfl
     have t_4:v14.cell? ⟨Tb,4,none⟩=some (.int .u64 T4):=by rw [cell_of_row _ _ _ _ _ _ HT.out];rfl
     refine wp_seq_k fun K15 k15=>?_
     have HK15:=hid k15
     clear k15
     go_wp2
     refine pause fun B15 v15 HX15 HG15 HW15=>?_
     clear c0 c1 c2 c3 c4 f0 f1 f2 f3 f4 t_0 t_1 t_2 t_3 t_4 y0
     replace HB:=hid (row1 (v:=.int .u64 B15) HB.out)
     rw [← HW15.out] at HB
     replace HT:=hid (row_of HG15.out HT.out (by simpa using hTR))
     replace HZ:=hid (row_of HG15.out HZ.out (by simp))
     replace HG:=hid (grown_newR HG.out HG15.out (by rw [HRR.out];exact Nat.le_refl _))
     refine HK15.out _ _ ?_
     have c0:v15.cell? ⟨R,0,none⟩=some (.int .u64 A10):=by rw [cell_of_row _ _ _ _ _ _ HB.out];rfl
     have c1:v15.cell? ⟨R,1,none⟩=some (.int .u64 B15):=by rw [cell_of_row _ _ _ _ _ _ HB.out];rfl
     have c2:v15.cell? ⟨R,2,none⟩=some (.int .u64 C12):=by rw [cell_of_row _ _ _ _ _ _ HB.out];rfl
     have c3:v15.cell? ⟨R,3,none⟩=some (.int .u64 D13):=by rw [cell_of_row _ _ _ _ _ _ HB.out];rfl
     have c4:v15.cell? ⟨R,4,none⟩=some (.int .u64 E14):=by rw [cell_of_row _ _ _ _ _ _ HB.out];rfl
     have f0:v15.frozen? ⟨R,0,none⟩=false:=frozen_of_row _ _ _ _ _ HB.out
     have f1:v15.frozen? ⟨R,1,none⟩=false:=frozen_of_row _ _ _ _ _ HB.out
     have f2:v15.frozen? ⟨R,2,none⟩=false:=frozen_of_row _ _ _ _ _ HB.out
     have f3:v15.frozen? ⟨R,3,none⟩=false:=frozen_of_row _ _ _ _ _ HB.out
     have f4:v15.frozen? ⟨R,4,none⟩=false:=frozen_of_row _ _ _ _ _ HB.out
     have y0:R < v15.heap.size:=block_lt_of_cell c0
     have t_0:v15.cell? ⟨Tb,0,none⟩=some (.int .u64 T0):=by rw [cell_of_row _ _ _ _ _ _ HT.out];rfl
     have t_1:v15.cell? ⟨Tb,1,none⟩=some (.int .u64 T1):=by rw [cell_of_row _ _ _ _ _ _ HT.out];rfl
     have t_2:v15.cell? ⟨Tb,2,none⟩=some (.int .u64 T2):=by rw [cell_of_row _ _ _ _ _ _ HT.out];rfl
     have t_3:v15.cell? ⟨Tb,3,none⟩=some (.int .u64 T3):=by rw [cell_of_row _ _ _ _ _ _ HT.out];rfl
     have t_4:v15.cell? ⟨Tb,4,none⟩=some (.int .u64 T4):=by rw [cell_of_row _ _ _ _ _ _ HT.out];rfl
     refine wp_seq_k fun K16 k16=>?_
     have HK16:=hid k16
     clear k16
     go_wp2
     refine pause fun A16 v16 HX16 HG16 HW16=>?_
     clear c0 c1 c2 c3 c4 f0 f1 f2 f3 f4 t_0 t_1 t_2 t_3 t_4 y0
     replace HB:=hid (row0 (v:=.int .u64 A16) HB.out)
     rw [← HW16.out] at HB
     replace HT:=hid (row_of HG16.out HT.out (by simpa using hTR))
     replace HZ:=hid (row_of HG16.out HZ.out (by simp))
     replace HG:=hid (grown_newR HG.out HG16.out (by rw [HRR.out];exact Nat.le_refl _))
     refine HK16.out _ _ ?_
     have c0:v16.cell? ⟨R,0,none⟩=some (.int .u64 A16):=by rw [cell_of_row _ _ _ _ _ _ HB.out];rfl
     have c1:v16.cell? ⟨R,1,none⟩=some (.int .u64 B15):=by rw [cell_of_row _ _ _ _ _ _ HB.out];rfl
     have c2:v16.cell? ⟨R,2,none⟩=some (.int .u64 C12):=by rw [cell_of_row _ _ _ _ _ _ HB.out];rfl
     have c3:v16.cell? ⟨R,3,none⟩=some (.int .u64 D13):=by rw [cell_of_row _ _ _ _ _ _ HB.out];rfl
     have c4:v16.cell? ⟨R,4,none⟩=some (.int .u64 E14):=by rw [cell_of_row _ _ _ _ _ _ HB.out];rfl
     have f0:v16.frozen? ⟨R,0,none⟩=false:=frozen_of_row _ _ _ _ _ HB.out
     have f1:v16.frozen? ⟨R,1,none⟩=false:=frozen_of_row _ _ _ _ _ HB.out
     have f2:v16.frozen? ⟨R,2,none⟩=false:=frozen_of_row _ _ _ _ _ HB.out
     have f3:v16.frozen? ⟨R,3,none⟩=false:=frozen_of_row _ _ _ _ _ HB.out
     have f4:v16.frozen? ⟨R,4,none⟩=false:=frozen_of_row _ _ _ _ _ HB.out
     have y0:R < v16.heap.size:=block_lt_of_cell c0
     have t_0:v16.cell? ⟨Tb,0,none⟩=some (.int .u64 T0):=by rw [cell_of_row _ _ _ _ _ _ HT.out];rfl
     have t_1:v16.cell? ⟨Tb,1,none⟩=some (.int .u64 T1):=by rw [cell_of_row _ _ _ _ _ _ HT.out];rfl
     have t_2:v16.cell? ⟨Tb,2,none⟩=some (.int .u64 T2):=by rw [cell_of_row _ _ _ _ _ _ HT.out];rfl
     have t_3:v16.cell? ⟨Tb,3,none⟩=some (.int .u64 T3):=by rw [cell_of_row _ _ _ _ _ _ HT.out];rfl
     have t_4:v16.cell? ⟨Tb,4,none⟩=some (.int .u64 T4):=by rw [cell_of_row _ _ _ _ _ _ HT.out];rfl
     refine wp_seq_k fun K17 k17=>?_
     have HK17:=hid k17
     clear k17
     go_wp2
     refine pause fun D17 v17 HX17 HG17 HW17=>?_
     clear c0 c1 c2 c3 c4 f0 f1 f2 f3 f4 t_0 t_1 t_2 t_3 t_4 y0
     replace HB:=hid (row3 (v:=.int .u64 D17) HB.out)
     rw [← HW17.out] at HB
     replace HT:=hid (row_of HG17.out HT.out (by simpa using hTR))
     replace HZ:=hid (row_of HG17.out HZ.out (by simp))
     replace HG:=hid (grown_newR HG.out HG17.out (by rw [HRR.out];exact Nat.le_refl _))
     refine HK17.out _ _ ?_
     have c0:v17.cell? ⟨R,0,none⟩=some (.int .u64 A16):=by rw [cell_of_row _ _ _ _ _ _ HB.out];rfl
     have c1:v17.cell? ⟨R,1,none⟩=some (.int .u64 B15):=by rw [cell_of_row _ _ _ _ _ _ HB.out];rfl
     have c2:v17.cell? ⟨R,2,none⟩=some (.int .u64 C12):=by rw [cell_of_row _ _ _ _ _ _ HB.out];rfl
     have c3:v17.cell? ⟨R,3,none⟩=some (.int .u64 D17):=by rw [cell_of_row _ _ _ _ _ _ HB.out];rfl
     have c4:v17.cell? ⟨R,4,none⟩=some (.int .u64 E14):=by rw [cell_of_row _ _ _ _ _ _ HB.out];rfl
     have f0:v17.frozen? ⟨R,0,none⟩=false:=frozen_of_row _ _ _ _ _ HB.out
     have f1:v17.frozen? ⟨R,1,none⟩=false:=frozen_of_row _ _ _ _ _ HB.out
     have f2:v17.frozen? ⟨R,2,none⟩=false:=frozen_of_row _ _ _ _ _ HB.out
     have f3:v17.frozen? ⟨R,3,none⟩=false:=frozen_of_row _ _ _ _ _ HB.out
     have f4:v17.frozen? ⟨R,4,none⟩=false:=frozen_of_row _ _ _ _ _ HB.out
     have y0:R < v17.heap.size:=block_lt_of_cell c0
     have t_0:v17.cell? ⟨Tb,0,none⟩=some (.int .u64 T0):=by rw [cell_of_row _ _ _ _ _ _ HT.out];rfl
     have t_1:v17.cell? ⟨Tb,1,none⟩=some (.int .u64 T1):=by rw [cell_of_row _ _ _ _ _ _ HT.out];rfl
     have t_2:v17.cell? ⟨Tb,2,none⟩=some (.int .u64 T2):=by rw [cell_of_row _ _ _ _ _ _ HT.out];rfl
     have t_3:v17.cell? ⟨Tb,3,none⟩=some (.int .u64 T3):=by rw [cell_of_row _ _ _ _ _ _ HT.out];rfl
     have t_4:v17.cell? ⟨Tb,4,none⟩=some (.int .u64 T4):=by rw [cell_of_row _ _ _ _ _ _ HT.out];rfl
     refine wp_seq_k fun K18 k18=>?_
     have HK18:=hid k18
     clear k18
     go_wp2
     refine pause fun C18 v18 HX18 HG18 HW18=>?_
     clear c0 c1 c2 c3 c4 f0 f1 f2 f3 f4 t_0 t_1 t_2 t_3 t_4 y0
     replace HB:=hid (row2 (v:=.int .u64 C18) HB.out)
     rw [← HW18.out] at HB
     replace HT:=hid (row_of HG18.out HT.out (by simpa using hTR))
     replace HZ:=hid (row_of HG18.out HZ.out (by simp))
     replace HG:=hid (grown_newR HG.out HG18.out (by rw [HRR.out];exact Nat.le_refl _))
     refine HK18.out _ _ ?_
     obtain ⟨e0,e1,e2,e3,e4⟩:=pre_eq hlt S HA.out HBB.out HC.out HD.out HE.out HX5.out HX6.out HX7.out HX8.out HX9.out HX10.out HX11.out HX12.out HX13.out HX14.out HX15.out HX16.out HX17.out HX18.out
     have HP0:=hid e0
     have HP1:=hid e1
     have HP2:=hid e2
     have HP3:=hid e3
     have HP4:=hid e4
     clear e0 e1 e2 e3 e4
     have c0:v18.cell? ⟨R,0,none⟩=some (.int .u64 A16):=by rw [cell_of_row _ _ _ _ _ _ HB.out];rfl
     have c1:v18.cell? ⟨R,1,none⟩=some (.int .u64 B15):=by rw [cell_of_row _ _ _ _ _ _ HB.out];rfl
     have c2:v18.cell? ⟨R,2,none⟩=some (.int .u64 C18):=by rw [cell_of_row _ _ _ _ _ _ HB.out];rfl
     have c3:v18.cell? ⟨R,3,none⟩=some (.int .u64 D17):=by rw [cell_of_row _ _ _ _ _ _ HB.out];rfl
     have c4:v18.cell? ⟨R,4,none⟩=some (.int .u64 E14):=by rw [cell_of_row _ _ _ _ _ _ HB.out];rfl
     have f0:v18.frozen? ⟨R,0,none⟩=false:=frozen_of_row _ _ _ _ _ HB.out
     have f1:v18.frozen? ⟨R,1,none⟩=false:=frozen_of_row _ _ _ _ _ HB.out
     have f2:v18.frozen? ⟨R,2,none⟩=false:=frozen_of_row _ _ _ _ _ HB.out
     have f3:v18.frozen? ⟨R,3,none⟩=false:=frozen_of_row _ _ _ _ _ HB.out
     have f4:v18.frozen? ⟨R,4,none⟩=false:=frozen_of_row _ _ _ _ _ HB.out
     have y0:R < v18.heap.size:=block_lt_of_cell c0
     have t_0:v18.cell? ⟨Tb,0,none⟩=some (.int .u64 T0):=by rw [cell_of_row _ _ _ _ _ _ HT.out];rfl
     have t_1:v18.cell? ⟨Tb,1,none⟩=some (.int .u64 T1):=by rw [cell_of_row _ _ _ _ _ _ HT.out];rfl
     have t_2:v18.cell? ⟨Tb,2,none⟩=some (.int .u64 T2):=by rw [cell_of_row _ _ _ _ _ _ HT.out];rfl
     have t_3:v18.cell? ⟨Tb,3,none⟩=some (.int .u64 T3):=by rw [cell_of_row _ _ _ _ _ _ HT.out];rfl
     have t_4:v18.cell? ⟨Tb,4,none⟩=some (.int .u64 T4):=by rw [cell_of_row _ _ _ _ _ _ HT.out];rfl
     refine wp_seq_k fun K19 k19=>?_
     have HK19:=hid k19
     clear k19
     go_wp2_with fail
     refine (mixed_call _ HP0.out 19 28 45 36 (by decide) (by decide) (by decide) (by decide) rots.1 rots.2.1 _).mono ?_
     rintro e w1 ⟨rfl,rfl⟩
     go_wp2
     refine pause fun A19 v19 HX19 HG19 HW19=>?_
     clear c0 c1 c2 c3 c4 f0 f1 f2 f3 f4 t_0 t_1 t_2 t_3 t_4 y0
     replace HB:=hid (row0 (v:=.int .u64 A19) HB.out)
     rw [← HW19.out] at HB
     replace HT:=hid (row_of HG19.out HT.out (by simpa using hTR))
     replace HZ:=hid (row_of HG19.out HZ.out (by simp))
     replace HG:=hid (grown_newR HG.out HG19.out (by rw [HRR.out];exact Nat.le_refl _))
     refine HK19.out _ _ ?_
     have c0:v19.cell? ⟨R,0,none⟩=some (.int .u64 A19):=by rw [cell_of_row _ _ _ _ _ _ HB.out];rfl
     have c1:v19.cell? ⟨R,1,none⟩=some (.int .u64 B15):=by rw [cell_of_row _ _ _ _ _ _ HB.out];rfl
     have c2:v19.cell? ⟨R,2,none⟩=some (.int .u64 C18):=by rw [cell_of_row _ _ _ _ _ _ HB.out];rfl
     have c3:v19.cell? ⟨R,3,none⟩=some (.int .u64 D17):=by rw [cell_of_row _ _ _ _ _ _ HB.out];rfl
     have c4:v19.cell? ⟨R,4,none⟩=some (.int .u64 E14):=by rw [cell_of_row _ _ _ _ _ _ HB.out];rfl
     have f0:v19.frozen? ⟨R,0,none⟩=false:=frozen_of_row _ _ _ _ _ HB.out
     have f1:v19.frozen? ⟨R,1,none⟩=false:=frozen_of_row _ _ _ _ _ HB.out
     have f2:v19.frozen? ⟨R,2,none⟩=false:=frozen_of_row _ _ _ _ _ HB.out
     have f3:v19.frozen? ⟨R,3,none⟩=false:=frozen_of_row _ _ _ _ _ HB.out
     have f4:v19.frozen? ⟨R,4,none⟩=false:=frozen_of_row _ _ _ _ _ HB.out
     have y0:R < v19.heap.size:=block_lt_of_cell c0
     have t_0:v19.cell? ⟨Tb,0,none⟩=some (.int .u64 T0):=by rw [cell_of_row _ _ _ _ _ _ HT.out];rfl
     have t_1:v19.cell? ⟨Tb,1,none⟩=some (.int .u64 T1):=by rw [cell_of_row _ _ _ _ _ _ HT.out];rfl
     have t_2:v19.cell? ⟨Tb,2,none⟩=some (.int .u64 T2):=by rw [cell_of_row _ _ _ _ _ _ HT.out];rfl
     have t_3:v19.cell? ⟨Tb,3,none⟩=some (.int .u64 T3):=by rw [cell_of_row _ _ _ _ _ _ HT.out];rfl
     have t_4:v19.cell? ⟨Tb,4,none⟩=some (.int .u64 T4):=by rw [cell_of_row _ _ _ _ _ _ HT.out];rfl
     refine wp_seq_k fun K20 k20=>?_
     have HK20:=hid k20
     clear k20
     go_wp2_with fail
     refine (mixed_call _ HP1.out 61 39 3 25 (by decide) (by decide) (by decide) (by decide) rots.2.2.1 rots.2.2.2.1 _).mono ?_
     rintro e w1 ⟨rfl,rfl⟩
     go_wp2
     refine pause fun B20 v20 HX20 HG20 HW20=>?_
     clear c0 c1 c2 c3 c4 f0 f1 f2 f3 f4 t_0 t_1 t_2 t_3 t_4 y0
     replace HB:=hid (row1 (v:=.int .u64 B20) HB.out)
     rw [← HW20.out] at HB
     replace HT:=hid (row_of HG20.out HT.out (by simpa using hTR))
     replace HZ:=hid (row_of HG20.out HZ.out (by simp))
     replace HG:=hid (grown_newR HG.out HG20.out (by rw [HRR.out];exact Nat.le_refl _))
     refine HK20.out _ _ ?_
     have c0:v20.cell? ⟨R,0,none⟩=some (.int .u64 A19):=by rw [cell_of_row _ _ _ _ _ _ HB.out];rfl
     have c1:v20.cell? ⟨R,1,none⟩=some (.int .u64 B20):=by rw [cell_of_row _ _ _ _ _ _ HB.out];rfl
     have c2:v20.cell? ⟨R,2,none⟩=some (.int .u64 C18):=by rw [cell_of_row _ _ _ _ _ _ HB.out];rfl
     have c3:v20.cell? ⟨R,3,none⟩=some (.int .u64 D17):=by rw [cell_of_row _ _ _ _ _ _ HB.out];rfl
     have c4:v20.cell? ⟨R,4,none⟩=some (.int .u64 E14):=by rw [cell_of_row _ _ _ _ _ _ HB.out];rfl
     have f0:v20.frozen? ⟨R,0,none⟩=false:=frozen_of_row _ _ _ _ _ HB.out
     have f1:v20.frozen? ⟨R,1,none⟩=false:=frozen_of_row _ _ _ _ _ HB.out
     have f2:v20.frozen? ⟨R,2,none⟩=false:=frozen_of_row _ _ _ _ _ HB.out
     have f3:v20.frozen? ⟨R,3,none⟩=false:=frozen_of_row _ _ _ _ _ HB.out
     have f4:v20.frozen? ⟨R,4,none⟩=false:=frozen_of_row _ _ _ _ _ HB.out
     have y0:R < v20.heap.size:=block_lt_of_cell c0
     have t_0:v20.cell? ⟨Tb,0,none⟩=some (.int .u64 T0):=by rw [cell_of_row _ _ _ _ _ _ HT.out];rfl
     have t_1:v20.cell? ⟨Tb,1,none⟩=some (.int .u64 T1):=by rw [cell_of_row _ _ _ _ _ _ HT.out];rfl
     have t_2:v20.cell? ⟨Tb,2,none⟩=some (.int .u64 T2):=by rw [cell_of_row _ _ _ _ _ _ HT.out];rfl
     have t_3:v20.cell? ⟨Tb,3,none⟩=some (.int .u64 T3):=by rw [cell_of_row _ _ _ _ _ _ HT.out];rfl
     have t_4:v20.cell? ⟨Tb,4,none⟩=some (.int .u64 T4):=by rw [cell_of_row _ _ _ _ _ _ HT.out];rfl
     refine wp_seq_k fun K21 k21=>?_
     have HK21:=hid k21
     clear k21
     go_wp2_with fail
     refine (mixed_call _ HP2.out 1 6 63 58 (by decide) (by decide) (by decide) (by decide) rots.2.2.2.2.1 rots.2.2.2.2.2.1 _).mono ?_
     rintro e w1 ⟨rfl,rfl⟩
     go_wp2
     refine pause fun C21 v21 HX21 HG21 HW21=>?_
     clear c0 c1 c2 c3 c4 f0 f1 f2 f3 f4 t_0 t_1 t_2 t_3 t_4 y0
     replace HB:=hid (row2 (v:=.int .u64 C21) HB.out)
     rw [← HW21.out] at HB
     replace HT:=hid (row_of HG21.out HT.out (by simpa using hTR))
     replace HZ:=hid (row_of HG21.out HZ.out (by simp))
     replace HG:=hid (grown_newR HG.out HG21.out (by rw [HRR.out];exact Nat.le_refl _))
     refine HK21.out _ _ ?_
     have c0:v21.cell? ⟨R,0,none⟩=some (.int .u64 A19):=by rw [cell_of_row _ _ _ _ _ _ HB.out];rfl
     have c1:v21.cell? ⟨R,1,none⟩=some (.int .u64 B20):=by rw [cell_of_row _ _ _ _ _ _ HB.out];rfl
     have c2:v21.cell? ⟨R,2,none⟩=some (.int .u64 C21):=by rw [cell_of_row _ _ _ _ _ _ HB.out];rfl
     have c3:v21.cell? ⟨R,3,none⟩=some (.int .u64 D17):=by rw [cell_of_row _ _ _ _ _ _ HB.out];rfl
     have c4:v21.cell? ⟨R,4,none⟩=some (.int .u64 E14):=by rw [cell_of_row _ _ _ _ _ _ HB.out];rfl
     have f0:v21.frozen? ⟨R,0,none⟩=false:=frozen_of_row _ _ _ _ _ HB.out
     have f1:v21.frozen? ⟨R,1,none⟩=false:=frozen_of_row _ _ _ _ _ HB.out
     have f2:v21.frozen? ⟨R,2,none⟩=false:=frozen_of_row _ _ _ _ _ HB.out
     have f3:v21.frozen? ⟨R,3,none⟩=false:=frozen_of_row _ _ _ _ _ HB.out
     have f4:v21.frozen? ⟨R,4,none⟩=false:=frozen_of_row _ _ _ _ _ HB.out
     have y0:R < v21.heap.size:=block_lt_of_cell c0
     have t_0:v21.cell? ⟨Tb,0,none⟩=some (.int .u64 T0):=by rw [cell_of_row _ _ _ _ _ _ HT.out];rfl
     have t_1:v21.cell? ⟨Tb,1,none⟩=some (.int .u64 T1):=by rw [cell_of_row _ _ _ _ _ _ HT.out];rfl
     have t_2:v21.cell? ⟨Tb,2,none⟩=some (.int .u64 T2):=by rw [cell_of_row _ _ _ _ _ _ HT.out];rfl
     have t_3:v21.cell? ⟨Tb,3,none⟩=some (.int .u64 T3):=by rw [cell_of_row _ _ _ _ _ _ HT.out];rfl
     have t_4:v21.cell? ⟨Tb,4,none⟩=some (.int .u64 T4):=by rw [cell_of_row _ _ _ _ _ _ HT.out];rfl
     refine wp_seq_k fun K22 k22=>?_
     have HK22:=hid k22
     clear k22
     go_wp2_with fail
     refine (mixed_call _ HP3.out 10 17 54 47 (by decide) (by decide) (by decide) (by decide) rots.2.2.2.2.2.2.1 rots.2.2.2.2.2.2.2.1 _).mono ?_
     rintro e w1 ⟨rfl,rfl⟩
     go_wp2
     refine pause fun D22 v22 HX22 HG22 HW22=>?_
     clear c0 c1 c2 c3 c4 f0 f1 f2 f3 f4 t_0 t_1 t_2 t_3 t_4 y0
     replace HB:=hid (row3 (v:=.int .u64 D22) HB.out)
     rw [← HW22.out] at HB
     replace HT:=hid (row_of HG22.out HT.out (by simpa using hTR))
     replace HZ:=hid (row_of HG22.out HZ.out (by simp))
     replace HG:=hid (grown_newR HG.out HG22.out (by rw [HRR.out];exact Nat.le_refl _))
     refine HK22.out _ _ ?_
     have c0:v22.cell? ⟨R,0,none⟩=some (.int .u64 A19):=by rw [cell_of_row _ _ _ _ _ _ HB.out];rfl
     have c1:v22.cell? ⟨R,1,none⟩=some (.int .u64 B20):=by rw [cell_of_row _ _ _ _ _ _ HB.out];rfl
     have c2:v22.cell? ⟨R,2,none⟩=some (.int .u64 C21):=by rw [cell_of_row _ _ _ _ _ _ HB.out];rfl
     have c3:v22.cell? ⟨R,3,none⟩=some (.int .u64 D22):=by rw [cell_of_row _ _ _ _ _ _ HB.out];rfl
     have c4:v22.cell? ⟨R,4,none⟩=some (.int .u64 E14):=by rw [cell_of_row _ _ _ _ _ _ HB.out];rfl
     have f0:v22.frozen? ⟨R,0,none⟩=false:=frozen_of_row _ _ _ _ _ HB.out
     have f1:v22.frozen? ⟨R,1,none⟩=false:=frozen_of_row _ _ _ _ _ HB.out
     have f2:v22.frozen? ⟨R,2,none⟩=false:=frozen_of_row _ _ _ _ _ HB.out
     have f3:v22.frozen? ⟨R,3,none⟩=false:=frozen_of_row _ _ _ _ _ HB.out
     have f4:v22.frozen? ⟨R,4,none⟩=false:=frozen_of_row _ _ _ _ _ HB.out
     have y0:R < v22.heap.size:=block_lt_of_cell c0
     have t_0:v22.cell? ⟨Tb,0,none⟩=some (.int .u64 T0):=by rw [cell_of_row _ _ _ _ _ _ HT.out];rfl
     have t_1:v22.cell? ⟨Tb,1,none⟩=some (.int .u64 T1):=by rw [cell_of_row _ _ _ _ _ _ HT.out];rfl
     have t_2:v22.cell? ⟨Tb,2,none⟩=some (.int .u64 T2):=by rw [cell_of_row _ _ _ _ _ _ HT.out];rfl
     have t_3:v22.cell? ⟨Tb,3,none⟩=some (.int .u64 T3):=by rw [cell_of_row _ _ _ _ _ _ HT.out];rfl
     have t_4:v22.cell? ⟨Tb,4,none⟩=some (.int .u64 T4):=by rw [cell_of_row _ _ _ _ _ _ HT.out];rfl
     go_wp2_with fail
     refine (mixed_call _ HP4.out 7 41 57 23 (by decide) (by decide) (by decide) (by decide) rots.2.2.2.2.2.2.2.2.1 rots.2.2.2.2.2.2.2.2.2 _).mono ?_
     rintro e w1 ⟨rfl,rfl⟩
     go_wp2
     refine pause fun E23 v23 HX23 HG23 HW23=>?_
     clear c0 c1 c2 c3 c4 f0 f1 f2 f3 f4 t_0 t_1 t_2 t_3 t_4 y0
     replace HB:=hid (row4 (v:=.int .u64 E23) HB.out)
     rw [← HW23.out] at HB
     replace HT:=hid (row_of HG23.out HT.out (by simpa using hTR))
     replace HZ:=hid (row_of HG23.out HZ.out (by simp))
     replace HG:=hid (grown_newR HG.out HG23.out (by rw [HRR.out];exact Nat.le_refl _))
     rw [HX19.out,HX20.out,HX21.out,HX22.out,HX23.out] at HB
     refine HK3.out _ _ ?_
     go_wp2
     go_roundw
     case rel=>exact ⟨k+1,rnd k S,by omega,by go_num,hid (by rw [HS.out];exact (perm_snoc k s).symm),HG,HZ,HB⟩
     case measure=>simp [intOf];omega
   · obtain rfl:k=12:=by omega
     have t1:decide (((12:Nat):Int) < 12)=false:=by decide
     have c0:wr.cell? ⟨R,0,none⟩=some (.int .u64 (wi S.a)):=by rw [cell_of_row _ _ _ _ _ _ HB.out];rfl
     have c1:wr.cell? ⟨R,1,none⟩=some (.int .u64 (wi S.b)):=by rw [cell_of_row _ _ _ _ _ _ HB.out];rfl
     have c2:wr.cell? ⟨R,2,none⟩=some (.int .u64 (wi S.c)):=by rw [cell_of_row _ _ _ _ _ _ HB.out];rfl
     have c3:wr.cell? ⟨R,3,none⟩=some (.int .u64 (wi S.d)):=by rw [cell_of_row _ _ _ _ _ _ HB.out];rfl
     have c4:wr.cell? ⟨R,4,none⟩=some (.int .u64 (wi S.e)):=by rw [cell_of_row _ _ _ _ _ _ HB.out];rfl
     have z0:wr.cell? ⟨R+1,0,none⟩=some (.int .u64 0):=by rw [cell_of_row _ _ _ _ _ _ HZ.out];rfl
     have f0:wr.frozen? ⟨R+1,0,none⟩=false:=frozen_of_row _ _ _ _ _ HZ.out
     have z1:wr.cell? ⟨R+1,1,none⟩=some (.int .u64 0):=by rw [cell_of_row _ _ _ _ _ _ HZ.out];rfl
     have f1:wr.frozen? ⟨R+1,1,none⟩=false:=frozen_of_row _ _ _ _ _ HZ.out
     have z2:wr.cell? ⟨R+1,2,none⟩=some (.int .u64 0):=by rw [cell_of_row _ _ _ _ _ _ HZ.out];rfl
     have f2:wr.frozen? ⟨R+1,2,none⟩=false:=frozen_of_row _ _ _ _ _ HZ.out
     have z3:wr.cell? ⟨R+1,3,none⟩=some (.int .u64 0):=by rw [cell_of_row _ _ _ _ _ _ HZ.out];rfl
     have f3:wr.frozen? ⟨R+1,3,none⟩=false:=frozen_of_row _ _ _ _ _ HZ.out
     have z4:wr.cell? ⟨R+1,4,none⟩=some (.int .u64 0):=by rw [cell_of_row _ _ _ _ _ _ HZ.out];rfl
     have f4:wr.frozen? ⟨R+1,4,none⟩=false:=frozen_of_row _ _ _ _ _ HZ.out
     have hr:=row4 (v:=.int .u64 (wi S.e)) (row3 (v:=.int .u64 (wi S.d)) (row2 (v:=.int .u64 (wi S.c)) (row1 (v:=.int .u64 (wi S.b)) (row0 (v:=.int .u64 (wi S.a)) HZ.out))))
     have HR5:=hid hr
     clear hr
     refine wp_seq_k fun K1 k1=>?_
     have HK1:=hid k1
     clear k1
     go_wp2
     refine HK1.out _ _ ?_
     refine wp_seq_k fun K2 k2=>?_
     have HK2:=hid k2
     clear k2
     clear z0 z1 z2 z3 z4 f0 f1 f2 f3 f4 c0 c1 c2 c3 c4
     go_wp2_with (first
       | (refine wpList_loadTY rfl 105 (.tmp 1) rfl rfl (tySt S) HB.out ?_)
       | (refine wpList_storeTYg rfl 105 (.tmp 2) (.tmp 138) rfl rfl rfl (tySt S) HZ.out rfl ?_;intro w2 g2 h2;have G2:=hid g2;have H2:=hid h2;clear g2 h2)
       | fail)
     have hP:S=perm s:=HS.out
     subst hP
     exact ret_cell (b:=R+1) rfl rfl (tySt (perm s)) H2.out rfl ⟨rfl,grown_newR HG.out G2.out (by rw [HRR.out];exact Nat.le_succ _)⟩
end Go.Proofs.YtbfjfnbcmojpiaaGreat
