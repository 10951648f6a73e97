import Derived.Test.YtbfjfnbcmojpiaaGreatDaMA
set_option linter.unusedSimpArgs false
set_option linter.unusedVariables false
set_option maxRecDepth 100000
set_option maxHeartbeats 8000000
namespace Go.Proofs.YtbfjfnbcmojpiaaGreat
open Go.RowKit
structure St where
 a:BitVec 64
 b:BitVec 64
 c:BitVec 64
 d:BitVec 64
 e:BitVec 64
def AGX (s:St):List Value:=[.int .u64 (wi s.a),.int .u64 (wi s.b),.int .u64 (wi s.c),.int .u64 (wi s.d),.int .u64 (wi s.e)]
def Lp (s:St):Value:=.agg #[.int .u64 (wi s.a),.int .u64 (wi s.b),.int .u64 (wi s.c),.int .u64 (wi s.d),.int .u64 (wi s.e)]
def FM (k:Nat) (s:St):St:=
 ⟨((s.a ^^^ s.e) ^^^ (~~~s.b &&& ((s.c ^^^ BitVec.ofNat 64 (240-15*k)) ^^^ s.b))) ^^^ ((s.e ^^^ s.d) ^^^ (~~~(s.a ^^^ s.e) &&& s.b)),
  (s.b ^^^ (~~~((s.c ^^^ BitVec.ofNat 64 (240-15*k)) ^^^ s.b) &&& s.d)) ^^^ ((s.a ^^^ s.e) ^^^ (~~~s.b &&& ((s.c ^^^ BitVec.ofNat 64 (240-15*k)) ^^^ s.b))),
  ~~~(((s.c ^^^ BitVec.ofNat 64 (240-15*k)) ^^^ s.b) ^^^ (~~~s.d &&& (s.e ^^^ s.d))),
  (s.d ^^^ (~~~(s.e ^^^ s.d) &&& (s.a ^^^ s.e))) ^^^ (((s.c ^^^ BitVec.ofNat 64 (240-15*k)) ^^^ s.b) ^^^ (~~~s.d &&& (s.e ^^^ s.d))),
  (s.e ^^^ s.d) ^^^ (~~~(s.a ^^^ s.e) &&& s.b)⟩
def rnd (k:Nat) (s:St):St:=⟨Wq (FM k s).a 19 28,Wq (FM k s).b 61 39,Wq (FM k s).c 1 6,Wq (FM k s).d 10 17,Wq (FM k s).e 7 41⟩
theorem AGY (x:BitVec 64):bits .xor .u64 IntKind.u64.max (wi x)=wi (~~~x):=by
 have e:IntKind.u64.max=wi (BitVec.allOnes 64):=by decide
 rw[e,Jl,BitVec.xor_comm,BitVec.xor_allOnes]
theorem AME {k:Nat} (hk:k<12):240-15*(k:Int)=wi (BitVec.ofNat 64 (240-15*k)):=by
 unfold wi
 rw[BitVec.toNat_ofNat]
 omega
theorem AGZ {k:Nat} (hk:k<12) (S:St) {A B C D E C5 A6 E7 C8 T0 T1 T2 T3 T4 A10 B11 C12 D13 E14 B15 A16 D17 C18:Int} (hA:A=wi S.a) (hB:B=wi S.b) (hC:C=wi S.c) (hD:D=wi S.d) (hE:E=wi S.e)
  (h5:C5=bits .xor .u64 C (240-15*(k:Int))) (h6:A6=bits .xor .u64 A E) (h7:E7=bits .xor .u64 E D) (h8:C8=bits .xor .u64 C5 B)
  (h9:T0=bits .and .u64 (bits .xor .u64 IntKind.u64.max A6) B∧T1=bits .and .u64 (bits .xor .u64 IntKind.u64.max B) C8∧T2=bits .and .u64 (bits .xor .u64 IntKind.u64.max C8) D∧T3=bits .and .u64 (bits .xor .u64 IntKind.u64.max D) E7∧T4=bits .and .u64 (bits .xor .u64 IntKind.u64.max E7) A6)
  (h10:A10=bits .xor .u64 A6 T1) (h11:B11=bits .xor .u64 B T2) (h12:C12=bits .xor .u64 C8 T3) (h13:D13=bits .xor .u64 D T4) (h14:E14=bits .xor .u64 E7 T0) (h15:B15=bits .xor .u64 B11 A10) (h16:A16=bits .xor .u64 A10 E14) (h17:D17=bits .xor .u64 D13 C12) (h18:C18=bits .xor .u64 IntKind.u64.max C12) :
  A16=wi (FM k S).a∧B15=wi (FM k S).b∧C18=wi (FM k S).c∧D17=wi (FM k S).d∧E14=wi (FM k S).e:=by
 obtain⟨g0,g1,g2,g3,g4⟩:=h9
 rw[AME hk] at h5
 subst hA hB hC hD hE h5 h6 h7 h8 g0 g1 g2 g3 g4 h10 h11 h12 h13 h14 h15 h16 h17 h18
 simp only[Jl,AGY,AGa]
 exact⟨rfl,rfl,rfl,rfl,rfl⟩
def Jm (s:St):St:=(List.range 12).foldl (fun s k=>rnd k s) s
theorem WC (k:Nat) (s:St):(List.range (k+1)).foldl (fun s k=>rnd k s) s=rnd k ((List.range k).foldl (fun s k=>rnd k s) s):=by
 rw[List.range_succ,List.foldl_append];rfl
theorem KP (s:St):TY Tryz.prog 105 (AGX s) (Lp s):=TY.agg Tryz.underlying105 rfl (by kernel_rfl) (by simp[AGX,Value.oneCell'])
theorem Rj {w:World} {R:Nat} {T:TypeId} {a b c d e v:Value} (h:w.heap[R]?=some (.cells #[a,b,c,d,e] T (0,0))):(w.setCell ⟨R,0,none⟩ v).heap[R]?=some (.cells #[v,b,c,d,e] T (0,0)):=by simpa using heap_setCell_same w R 0 _ T v h
theorem ZT {w:World} {R:Nat} {T:TypeId} {a b c d e v:Value} (h:w.heap[R]?=some (.cells #[a,b,c,d,e] T (0,0))):(w.setCell ⟨R,1,none⟩ v).heap[R]?=some (.cells #[a,v,c,d,e] T (0,0)):=by simpa using heap_setCell_same w R 1 _ T v h
theorem Qm {w:World} {R:Nat} {T:TypeId} {a b c d e v:Value} (h:w.heap[R]?=some (.cells #[a,b,c,d,e] T (0,0))):(w.setCell ⟨R,2,none⟩ v).heap[R]?=some (.cells #[a,b,v,d,e] T (0,0)):=by simpa using heap_setCell_same w R 2 _ T v h
theorem ZU {w:World} {R:Nat} {T:TypeId} {a b c d e v:Value} (h:w.heap[R]?=some (.cells #[a,b,c,d,e] T (0,0))):(w.setCell ⟨R,3,none⟩ v).heap[R]?=some (.cells #[a,b,c,v,e] T (0,0)):=by simpa using heap_setCell_same w R 3 _ T v h
theorem ZV {w:World} {R:Nat} {T:TypeId} {a b c d e v:Value} (h:w.heap[R]?=some (.cells #[a,b,c,d,e] T (0,0))):(w.setCell ⟨R,4,none⟩ v).heap[R]?=some (.cells #[a,b,c,d,v] T (0,0)):=by simpa using heap_setCell_same w R 4 _ T v h
theorem Ew {K:Act→World→Prop} {a:Act} {w:World} {R i:Nat} {n:Int} (h:∀(X:Int) (w':World),Hid (X=n)→Hid (w.grownBy w' (some R))→Hid (w'=w.setCell ⟨R,i,none⟩ (.int .u64 X))→K a w'):K a (w.setCell ⟨R,i,none⟩ (.int .u64 n)):=
 h n _ (AK rfl) (AK (BE w ⟨R,i,none⟩ (.int .u64 n))) (AK rfl)
theorem AK1 {K:Act→World→Prop} {a:Act} {w:World} {n0 n1 n2 n3 n4:Int} (h:∀(X0 X1 X2 X3 X4:Int) (w':World),Hid (X0=n0∧X1=n1∧X2=n2∧X3=n3∧X4=n4)→Hid (w.grownBy w' none)→Hid (w'.heap[w.heap.size]?=some (.cells #[.int .u64 X0,.int .u64 X1,.int .u64 X2,.int .u64 X3,.int .u64 X4] 105 (0,0)))→K a w') :
  K a (w.alloc (.cells #[.int .u64 n0,.int .u64 n1,.int .u64 n2,.int .u64 n3,.int .u64 n4] 105)):=
 h n0 n1 n2 n3 n4 _ (AK ⟨rfl,rfl,rfl,rfl,rfl⟩) (AK (World.grownBy_alloc _ _ _)) (AK (Ak rfl))
theorem Jn {X:Int} (x:BitVec 64) (hX:X=wi x) (a b:Int) (s t:Nat) (hs:s<64) (ht:t<64) (ha:-64 < -a∧-a<0) (hb:-64 < -b∧-b<0) (h1:bits .and .u64 (IntKind.u64.wrap (-a)) 63=(s:Int)) (h2:bits .and .u64 (IntKind.u64.wrap (-b)) 63=(t:Int)) (w:World) :
  Calls Tryz.prog 157 #[.int .u64 X,.int .i64 a,.int .i64 b] w fun e w'=>e=.returned (.int .u64 (wi (Wq x (64-s) (64-t))))∧w'=w:=by
 subst hX
 exact ACT x a b s t hs ht ha hb h1 h2 w
theorem NJ (s:St) (w:World):Calls Tryz.prog 150 #[Lp s] w fun e w'=>e=.returned (Lp (Jm s))∧w.grownBy w' none:=by
 unfold Lp
 obtain⟨R,hR⟩:∃R,R=w.heap.size:=⟨_,rfl⟩
 have HRR:=AK hR
 go_enter Tryz.func150,Tryz.ntmps150
 go_wp2
 rw[←hR]
 have hR2:=AK hR
 clear hR
 go_loopw [5] (fun i wr=>∃(k:Nat) (S:St),k≤12∧i=.int .i64 k∧Hid (S=(List.range k).foldl (fun s k=>rnd k s) s)∧Hid (w.grownBy wr none)∧Hid (wr.heap[R+1]?=some (.cells #[.int .u64 0,.int .u64 0,.int .u64 0,.int .u64 0,.int .u64 0] 105 (0,0)))∧Hid (wr.heap[R]?=some (.cells #[.int .u64 (wi S.a),.int .u64 (wi S.b),.int .u64 (wi S.c),.int .u64 (wi S.d),.int .u64 (wi S.e)] 105 (0,0)))) (fun i _=>12-(intOf i).toNat)
 case atStart =>
  rw[hR2.out]
  exact⟨0,s,by omega,rfl,AK rfl,AK (AA (World.grownBy_alloc _ _ _) (World.grownBy_alloc _ _ _)),AK (Ak (by simp)),AK (by rw[BZ (by simp),Ak rfl])⟩
 case round =>
  obtain⟨k,S,hk,rfl,HS,HG,HZ,HB⟩:=hrel
  by_cases hlt:k<12
  · have t1:decide ((k:Int)<12)=true:=by simp;omega
    have i1:(0:Int)≤(k:Int):=by omega
    have i2:(k:Int)<12:=by omega
    obtain⟨A,HA⟩:∃A,Hid (A=wi S.a):=⟨_,AK rfl⟩
    obtain⟨B,HBB⟩:∃B,Hid (B=wi S.b):=⟨_,AK rfl⟩
    obtain⟨C,HC⟩:∃C,Hid (C=wi S.c):=⟨_,AK rfl⟩
    obtain⟨D,HD⟩:∃D,Hid (D=wi S.d):=⟨_,AK rfl⟩
    obtain⟨E,HE⟩:∃E,Hid (E=wi S.e):=⟨_,AK rfl⟩
    rw[←HA.out,←HBB.out,←HC.out,←HD.out,←HE.out] at HB
    refine AOQ fun K1 k1=>?_
    have HK1:=AK k1
    clear k1
    go_wp2
    refine HK1.out _ _ ?_
    refine AOQ fun K2 k2=>?_
    have HK2:=AK k2
    clear k2
    go_wp2
    refine HK2.out _ _ ?_
    refine AOQ fun K3 k3=>?_
    have HK3:=AK k3
    clear k3
    refine wp_block ?_
    refine AOQ fun K4 k4=>?_
    have HK4:=AK k4
    clear k4
    go_wp2
    refine HK4.out _ _ ?_
    have c0:=AZ 0 A HB.out rfl
    have c1:=AZ 1 B HB.out rfl
    have c2:=AZ 2 C HB.out rfl
    have c3:=AZ 3 D HB.out rfl
    have c4:=AZ 4 E HB.out rfl
    have f0:=Ax 0 HB.out
    have f1:=Ax 1 HB.out
    have f2:=Ax 2 HB.out
    have f3:=Ax 3 HB.out
    have f4:=Ax 4 HB.out
    have y0:R<wr.heap.size:=AOR c0
    refine AOQ fun K5 k5=>?_
    have HK5:=AK k5
    clear k5
    go_wp2
    refine Ew fun C5 v5 HX5 HG5 HW5=>?_
    clear c0 c1 c2 c3 c4 f0 f1 f2 f3 f4 y0
    replace HB:=AK (Qm (v:=.int .u64 C5) HB.out)
    rw[←HW5.out] at HB
    replace HZ:=AK (AF HG5.out HZ.out (by simp))
    replace HG:=AK (AE HG.out HG5.out (by rw[HRR.out];exact Nat.le_refl _))
    refine HK5.out _ _ ?_
    have c0:=AZ 0 A HB.out rfl
    have c1:=AZ 1 B HB.out rfl
    have c2:=AZ 2 C5 HB.out rfl
    have c3:=AZ 3 D HB.out rfl
    have c4:=AZ 4 E HB.out rfl
    have f0:=Ax 0 HB.out
    have f1:=Ax 1 HB.out
    have f2:=Ax 2 HB.out
    have f3:=Ax 3 HB.out
    have f4:=Ax 4 HB.out
    have y0:R<v5.heap.size:=AOR c0
    refine AOQ fun K6 k6=>?_
    have HK6:=AK k6
    clear k6
    go_wp2
    refine Ew fun A6 v6 HX6 HG6 HW6=>?_
    clear c0 c1 c2 c3 c4 f0 f1 f2 f3 f4 y0
    replace HB:=AK (Rj (v:=.int .u64 A6) HB.out)
    rw[←HW6.out] at HB
    replace HZ:=AK (AF HG6.out HZ.out (by simp))
    replace HG:=AK (AE HG.out HG6.out (by rw[HRR.out];exact Nat.le_refl _))
    refine HK6.out _ _ ?_
    have c0:=AZ 0 A6 HB.out rfl
    have c1:=AZ 1 B HB.out rfl
    have c2:=AZ 2 C5 HB.out rfl
    have c3:=AZ 3 D HB.out rfl
    have c4:=AZ 4 E HB.out rfl
    have f0:=Ax 0 HB.out
    have f1:=Ax 1 HB.out
    have f2:=Ax 2 HB.out
    have f3:=Ax 3 HB.out
    have f4:=Ax 4 HB.out
    have y0:R<v6.heap.size:=AOR c0
    refine AOQ fun K7 k7=>?_
    have HK7:=AK k7
    clear k7
    go_wp2
    refine Ew fun E7 v7 HX7 HG7 HW7=>?_
    clear c0 c1 c2 c3 c4 f0 f1 f2 f3 f4 y0
    replace HB:=AK (ZV (v:=.int .u64 E7) HB.out)
    rw[←HW7.out] at HB
    replace HZ:=AK (AF HG7.out HZ.out (by simp))
    replace HG:=AK (AE HG.out HG7.out (by rw[HRR.out];exact Nat.le_refl _))
    refine HK7.out _ _ ?_
    have c0:=AZ 0 A6 HB.out rfl
    have c1:=AZ 1 B HB.out rfl
    have c2:=AZ 2 C5 HB.out rfl
    have c3:=AZ 3 D HB.out rfl
    have c4:=AZ 4 E7 HB.out rfl
    have f0:=Ax 0 HB.out
    have f1:=Ax 1 HB.out
    have f2:=Ax 2 HB.out
    have f3:=Ax 3 HB.out
    have f4:=Ax 4 HB.out
    have y0:R<v7.heap.size:=AOR c0
    refine AOQ fun K8 k8=>?_
    have HK8:=AK k8
    clear k8
    go_wp2
    refine Ew fun C8 v8 HX8 HG8 HW8=>?_
    clear c0 c1 c2 c3 c4 f0 f1 f2 f3 f4 y0
    replace HB:=AK (Qm (v:=.int .u64 C8) HB.out)
    rw[←HW8.out] at HB
    replace HZ:=AK (AF HG8.out HZ.out (by simp))
    replace HG:=AK (AE HG.out HG8.out (by rw[HRR.out];exact Nat.le_refl _))
    refine HK8.out _ _ ?_
    have c0:=AZ 0 A6 HB.out rfl
    have c1:=AZ 1 B HB.out rfl
    have c2:=AZ 2 C8 HB.out rfl
    have c3:=AZ 3 D HB.out rfl
    have c4:=AZ 4 E7 HB.out rfl
    have y0:R<v8.heap.size:=AOR c0
    refine AOQ fun K9 k9=>?_
    have HK9:=AK k9
    clear k9
    go_wp2
    refine AK1 fun T0 T1 T2 T3 T4 v9 HX9 HG9 HT=>?_
    obtain⟨Tb,hTb⟩:∃b,b=v8.heap.size:=⟨_,rfl⟩
    rw[←hTb] at HT ⊢
    have hTR:¬Tb=R:=by omega
    have HTb:=AK hTb
    clear hTb c0 c1 c2 c3 c4 y0
    replace HB:=AK (AF HG9.out HB.out (by simp))
    replace HZ:=AK (AF HG9.out HZ.out (by simp))
    replace HG:=AK (AA HG.out HG9.out)
    refine HK9.out _ _ ?_
    have c0:=AZ 0 A6 HB.out rfl
    have c1:=AZ 1 B HB.out rfl
    have c2:=AZ 2 C8 HB.out rfl
    have c3:=AZ 3 D HB.out rfl
    have c4:=AZ 4 E7 HB.out rfl
    have f0:=Ax 0 HB.out
    have f1:=Ax 1 HB.out
    have f2:=Ax 2 HB.out
    have f3:=Ax 3 HB.out
    have f4:=Ax 4 HB.out
    have y0:R<v9.heap.size:=AOR c0
    have t_0:=AZ 0 T0 HT.out rfl
    have t_1:=AZ 1 T1 HT.out rfl
    have t_2:=AZ 2 T2 HT.out rfl
    have t_3:=AZ 3 T3 HT.out rfl
    have t_4:=AZ 4 T4 HT.out rfl
    refine AOQ fun K10 k10=>?_
    have HK10:=AK k10
    clear k10
    go_wp2
    refine Ew fun A10 v10 HX10 HG10 HW10=>?_
    clear c0 c1 c2 c3 c4 f0 f1 f2 f3 f4 t_0 t_1 t_2 t_3 t_4 y0
    replace HB:=AK (Rj (v:=.int .u64 A10) HB.out)
    rw[←HW10.out] at HB
    replace HT:=AK (AF HG10.out HT.out (by simpa using hTR))
    replace HZ:=AK (AF HG10.out HZ.out (by simp))
    replace HG:=AK (AE HG.out HG10.out (by rw[HRR.out];exact Nat.le_refl _))
    refine HK10.out _ _ ?_
    have c0:=AZ 0 A10 HB.out rfl
    have c1:=AZ 1 B HB.out rfl
    have c2:=AZ 2 C8 HB.out rfl
    have c3:=AZ 3 D HB.out rfl
    have c4:=AZ 4 E7 HB.out rfl
    have f0:=Ax 0 HB.out
    have f1:=Ax 1 HB.out
    have f2:=Ax 2 HB.out
    have f3:=Ax 3 HB.out
    have f4:=Ax 4 HB.out
    have y0:R<v10.heap.size:=AOR c0
    have t_0:=AZ 0 T0 HT.out rfl
    have t_1:=AZ 1 T1 HT.out rfl
    have t_2:=AZ 2 T2 HT.out rfl
    have t_3:=AZ 3 T3 HT.out rfl
    have t_4:=AZ 4 T4 HT.out rfl
    refine AOQ fun K11 k11=>?_
    have HK11:=AK k11
    clear k11
    go_wp2
    refine Ew fun B11 v11 HX11 HG11 HW11=>?_
    clear c0 c1 c2 c3 c4 f0 f1 f2 f3 f4 t_0 t_1 t_2 t_3 t_4 y0
    replace HB:=AK (ZT (v:=.int .u64 B11) HB.out)
    rw[←HW11.out] at HB
    replace HT:=AK (AF HG11.out HT.out (by simpa using hTR))
    replace HZ:=AK (AF HG11.out HZ.out (by simp))
    replace HG:=AK (AE HG.out HG11.out (by rw[HRR.out];exact Nat.le_refl _))
    refine HK11.out _ _ ?_
    have c0:=AZ 0 A10 HB.out rfl
    have c1:=AZ 1 B11 HB.out rfl
    have c2:=AZ 2 C8 HB.out rfl
    have c3:=AZ 3 D HB.out rfl
    have c4:=AZ 4 E7 HB.out rfl
    have f0:=Ax 0 HB.out
    have f1:=Ax 1 HB.out
    have f2:=Ax 2 HB.out
    have f3:=Ax 3 HB.out
    have f4:=Ax 4 HB.out
    have y0:R<v11.heap.size:=AOR c0
    have t_0:=AZ 0 T0 HT.out rfl
    have t_1:=AZ 1 T1 HT.out rfl
    have t_2:=AZ 2 T2 HT.out rfl
    have t_3:=AZ 3 T3 HT.out rfl
    have t_4:=AZ 4 T4 HT.out rfl
    refine AOQ fun K12 k12=>?_
    have HK12:=AK k12
    clear k12
    go_wp2
    refine Ew fun C12 v12 HX12 HG12 HW12=>?_
    clear c0 c1 c2 c3 c4 f0 f1 f2 f3 f4 t_0 t_1 t_2 t_3 t_4 y0
    replace HB:=AK (Qm (v:=.int .u64 C12) HB.out)
    rw[←HW12.out] at HB
    replace HT:=AK (AF HG12.out HT.out (by simpa using hTR))
    replace HZ:=AK (AF HG12.out HZ.out (by simp))
    replace HG:=AK (AE HG.out HG12.out (by rw[HRR.out];exact Nat.le_refl _))
    refine HK12.out _ _ ?_
    have c0:=AZ 0 A10 HB.out rfl
    have c1:=AZ 1 B11 HB.out rfl
    have c2:=AZ 2 C12 HB.out rfl
    have c3:=AZ 3 D HB.out rfl
    have c4:=AZ 4 E7 HB.out rfl
    have f0:=Ax 0 HB.out
    have f1:=Ax 1 HB.out
    have f2:=Ax 2 HB.out
    have f3:=Ax 3 HB.out
    have f4:=Ax 4 HB.out
    have y0:R<v12.heap.size:=AOR c0
    have t_0:=AZ 0 T0 HT.out rfl
    have t_1:=AZ 1 T1 HT.out rfl
    have t_2:=AZ 2 T2 HT.out rfl
    have t_3:=AZ 3 T3 HT.out rfl
    have t_4:=AZ 4 T4 HT.out rfl
    refine AOQ fun K13 k13=>?_
    have HK13:=AK k13
    clear k13
    go_wp2
    refine Ew fun D13 v13 HX13 HG13 HW13=>?_
    clear c0 c1 c2 c3 c4 f0 f1 f2 f3 f4 t_0 t_1 t_2 t_3 t_4 y0
    replace HB:=AK (ZU (v:=.int .u64 D13) HB.out)
    rw[←HW13.out] at HB
    replace HT:=AK (AF HG13.out HT.out (by simpa using hTR))
    replace HZ:=AK (AF HG13.out HZ.out (by simp))
    replace HG:=AK (AE HG.out HG13.out (by rw[HRR.out];exact Nat.le_refl _))
    refine HK13.out _ _ ?_
    have c0:=AZ 0 A10 HB.out rfl
    have c1:=AZ 1 B11 HB.out rfl
    have c2:=AZ 2 C12 HB.out rfl
    have c3:=AZ 3 D13 HB.out rfl
    have c4:=AZ 4 E7 HB.out rfl
    have f0:=Ax 0 HB.out
    have f1:=Ax 1 HB.out
    have f2:=Ax 2 HB.out
    have f3:=Ax 3 HB.out
    have f4:=Ax 4 HB.out
    have y0:R<v13.heap.size:=AOR c0
    have t_0:=AZ 0 T0 HT.out rfl
    have t_1:=AZ 1 T1 HT.out rfl
    have t_2:=AZ 2 T2 HT.out rfl
    have t_3:=AZ 3 T3 HT.out rfl
    have t_4:=AZ 4 T4 HT.out rfl
    refine AOQ fun K14 k14=>?_
    have HK14:=AK k14
    clear k14
    go_wp2
    refine Ew fun E14 v14 HX14 HG14 HW14=>?_
    clear c0 c1 c2 c3 c4 f0 f1 f2 f3 f4 t_0 t_1 t_2 t_3 t_4 y0
    replace HB:=AK (ZV (v:=.int .u64 E14) HB.out)
    rw[←HW14.out] at HB
    replace HT:=AK (AF HG14.out HT.out (by simpa using hTR))
    replace HZ:=AK (AF HG14.out HZ.out (by simp))
    replace HG:=AK (AE HG.out HG14.out (by rw[HRR.out];exact Nat.le_refl _))
    refine HK14.out _ _ ?_
    have c0:=AZ 0 A10 HB.out rfl
    have c1:=AZ 1 B11 HB.out rfl
    have c2:=AZ 2 C12 HB.out rfl
    have c3:=AZ 3 D13 HB.out rfl
    have c4:=AZ 4 E14 HB.out rfl
    have f0:=Ax 0 HB.out
    have f1:=Ax 1 HB.out
    have f2:=Ax 2 HB.out
    have f3:=Ax 3 HB.out
    have f4:=Ax 4 HB.out
    have y0:R<v14.heap.size:=AOR c0
    have t_0:=AZ 0 T0 HT.out rfl
    have t_1:=AZ 1 T1 HT.out rfl
    have t_2:=AZ 2 T2 HT.out rfl
    have t_3:=AZ 3 T3 HT.out rfl
    have t_4:=AZ 4 T4 HT.out rfl
    refine AOQ fun K15 k15=>?_
    have HK15:=AK k15
    clear k15
    go_wp2
    refine Ew fun B15 v15 HX15 HG15 HW15=>?_
    clear c0 c1 c2 c3 c4 f0 f1 f2 f3 f4 t_0 t_1 t_2 t_3 t_4 y0
    replace HB:=AK (ZT (v:=.int .u64 B15) HB.out)
    rw[←HW15.out] at HB
    replace HT:=AK (AF HG15.out HT.out (by simpa using hTR))
    replace HZ:=AK (AF HG15.out HZ.out (by simp))
    replace HG:=AK (AE HG.out HG15.out (by rw[HRR.out];exact Nat.le_refl _))
    refine HK15.out _ _ ?_
    have c0:=AZ 0 A10 HB.out rfl
    have c1:=AZ 1 B15 HB.out rfl
    have c2:=AZ 2 C12 HB.out rfl
    have c3:=AZ 3 D13 HB.out rfl
    have c4:=AZ 4 E14 HB.out rfl
    have f0:=Ax 0 HB.out
    have f1:=Ax 1 HB.out
    have f2:=Ax 2 HB.out
    have f3:=Ax 3 HB.out
    have f4:=Ax 4 HB.out
    have y0:R<v15.heap.size:=AOR c0
    have t_0:=AZ 0 T0 HT.out rfl
    have t_1:=AZ 1 T1 HT.out rfl
    have t_2:=AZ 2 T2 HT.out rfl
    have t_3:=AZ 3 T3 HT.out rfl
    have t_4:=AZ 4 T4 HT.out rfl
    refine AOQ fun K16 k16=>?_
    have HK16:=AK k16
    clear k16
    go_wp2
    refine Ew fun A16 v16 HX16 HG16 HW16=>?_
    clear c0 c1 c2 c3 c4 f0 f1 f2 f3 f4 t_0 t_1 t_2 t_3 t_4 y0
    replace HB:=AK (Rj (v:=.int .u64 A16) HB.out)
    rw[←HW16.out] at HB
    replace HT:=AK (AF HG16.out HT.out (by simpa using hTR))
    replace HZ:=AK (AF HG16.out HZ.out (by simp))
    replace HG:=AK (AE HG.out HG16.out (by rw[HRR.out];exact Nat.le_refl _))
    refine HK16.out _ _ ?_
    have c0:=AZ 0 A16 HB.out rfl
    have c1:=AZ 1 B15 HB.out rfl
    have c2:=AZ 2 C12 HB.out rfl
    have c3:=AZ 3 D13 HB.out rfl
    have c4:=AZ 4 E14 HB.out rfl
    have f0:=Ax 0 HB.out
    have f1:=Ax 1 HB.out
    have f2:=Ax 2 HB.out
    have f3:=Ax 3 HB.out
    have f4:=Ax 4 HB.out
    have y0:R<v16.heap.size:=AOR c0
    have t_0:=AZ 0 T0 HT.out rfl
    have t_1:=AZ 1 T1 HT.out rfl
    have t_2:=AZ 2 T2 HT.out rfl
    have t_3:=AZ 3 T3 HT.out rfl
    have t_4:=AZ 4 T4 HT.out rfl
    refine AOQ fun K17 k17=>?_
    have HK17:=AK k17
    clear k17
    go_wp2
    refine Ew fun D17 v17 HX17 HG17 HW17=>?_
    clear c0 c1 c2 c3 c4 f0 f1 f2 f3 f4 t_0 t_1 t_2 t_3 t_4 y0
    replace HB:=AK (ZU (v:=.int .u64 D17) HB.out)
    rw[←HW17.out] at HB
    replace HT:=AK (AF HG17.out HT.out (by simpa using hTR))
    replace HZ:=AK (AF HG17.out HZ.out (by simp))
    replace HG:=AK (AE HG.out HG17.out (by rw[HRR.out];exact Nat.le_refl _))
    refine HK17.out _ _ ?_
    have c0:=AZ 0 A16 HB.out rfl
    have c1:=AZ 1 B15 HB.out rfl
    have c2:=AZ 2 C12 HB.out rfl
    have c3:=AZ 3 D17 HB.out rfl
    have c4:=AZ 4 E14 HB.out rfl
    have f0:=Ax 0 HB.out
    have f1:=Ax 1 HB.out
    have f2:=Ax 2 HB.out
    have f3:=Ax 3 HB.out
    have f4:=Ax 4 HB.out
    have y0:R<v17.heap.size:=AOR c0
    have t_0:=AZ 0 T0 HT.out rfl
    have t_1:=AZ 1 T1 HT.out rfl
    have t_2:=AZ 2 T2 HT.out rfl
    have t_3:=AZ 3 T3 HT.out rfl
    have t_4:=AZ 4 T4 HT.out rfl
    refine AOQ fun K18 k18=>?_
    have HK18:=AK k18
    clear k18
    go_wp2
    refine Ew fun C18 v18 HX18 HG18 HW18=>?_
    clear c0 c1 c2 c3 c4 f0 f1 f2 f3 f4 t_0 t_1 t_2 t_3 t_4 y0
    replace HB:=AK (Qm (v:=.int .u64 C18) HB.out)
    rw[←HW18.out] at HB
    replace HT:=AK (AF HG18.out HT.out (by simpa using hTR))
    replace HZ:=AK (AF HG18.out HZ.out (by simp))
    replace HG:=AK (AE HG.out HG18.out (by rw[HRR.out];exact Nat.le_refl _))
    refine HK18.out _ _ ?_
    obtain⟨e0,e1,e2,e3,e4⟩:=AGZ hlt S HA.out HBB.out HC.out HD.out HE.out HX5.out HX6.out HX7.out HX8.out HX9.out HX10.out HX11.out HX12.out HX13.out HX14.out HX15.out HX16.out HX17.out HX18.out
    have HP0:=AK e0
    have HP1:=AK e1
    have HP2:=AK e2
    have HP3:=AK e3
    have HP4:=AK e4
    clear e0 e1 e2 e3 e4
    have c0:=AZ 0 A16 HB.out rfl
    have c1:=AZ 1 B15 HB.out rfl
    have c2:=AZ 2 C18 HB.out rfl
    have c3:=AZ 3 D17 HB.out rfl
    have c4:=AZ 4 E14 HB.out rfl
    have f0:=Ax 0 HB.out
    have f1:=Ax 1 HB.out
    have f2:=Ax 2 HB.out
    have f3:=Ax 3 HB.out
    have f4:=Ax 4 HB.out
    have y0:R<v18.heap.size:=AOR c0
    have t_0:=AZ 0 T0 HT.out rfl
    have t_1:=AZ 1 T1 HT.out rfl
    have t_2:=AZ 2 T2 HT.out rfl
    have t_3:=AZ 3 T3 HT.out rfl
    have t_4:=AZ 4 T4 HT.out rfl
    refine AOQ fun K19 k19=>?_
    have HK19:=AK k19
    clear k19
    go_wp2_with fail
    refine(Jn _ HP0.out 19 28 45 36 (by decide) (by decide) (by decide) (by decide) UL.1 UL.2.1 _).mono ?_
    rintro e w1 ⟨rfl,rfl⟩
    go_wp2
    refine Ew fun A19 v19 HX19 HG19 HW19=>?_
    clear c0 c1 c2 c3 c4 f0 f1 f2 f3 f4 t_0 t_1 t_2 t_3 t_4 y0
    replace HB:=AK (Rj (v:=.int .u64 A19) HB.out)
    rw[←HW19.out] at HB
    replace HT:=AK (AF HG19.out HT.out (by simpa using hTR))
    replace HZ:=AK (AF HG19.out HZ.out (by simp))
    replace HG:=AK (AE HG.out HG19.out (by rw[HRR.out];exact Nat.le_refl _))
    refine HK19.out _ _ ?_
    have c0:=AZ 0 A19 HB.out rfl
    have c1:=AZ 1 B15 HB.out rfl
    have c2:=AZ 2 C18 HB.out rfl
    have c3:=AZ 3 D17 HB.out rfl
    have c4:=AZ 4 E14 HB.out rfl
    have f0:=Ax 0 HB.out
    have f1:=Ax 1 HB.out
    have f2:=Ax 2 HB.out
    have f3:=Ax 3 HB.out
    have f4:=Ax 4 HB.out
    have y0:R<v19.heap.size:=AOR c0
    have t_0:=AZ 0 T0 HT.out rfl
    have t_1:=AZ 1 T1 HT.out rfl
    have t_2:=AZ 2 T2 HT.out rfl
    have t_3:=AZ 3 T3 HT.out rfl
    have t_4:=AZ 4 T4 HT.out rfl
    refine AOQ fun K20 k20=>?_
    have HK20:=AK k20
    clear k20
    go_wp2_with fail
    refine(Jn _ HP1.out 61 39 3 25 (by decide) (by decide) (by decide) (by decide) UL.2.2.1 UL.2.2.2.1 _).mono ?_
    rintro e w1 ⟨rfl,rfl⟩
    go_wp2
    refine Ew fun B20 v20 HX20 HG20 HW20=>?_
    clear c0 c1 c2 c3 c4 f0 f1 f2 f3 f4 t_0 t_1 t_2 t_3 t_4 y0
    replace HB:=AK (ZT (v:=.int .u64 B20) HB.out)
    rw[←HW20.out] at HB
    replace HT:=AK (AF HG20.out HT.out (by simpa using hTR))
    replace HZ:=AK (AF HG20.out HZ.out (by simp))
    replace HG:=AK (AE HG.out HG20.out (by rw[HRR.out];exact Nat.le_refl _))
    refine HK20.out _ _ ?_
    have c0:=AZ 0 A19 HB.out rfl
    have c1:=AZ 1 B20 HB.out rfl
    have c2:=AZ 2 C18 HB.out rfl
    have c3:=AZ 3 D17 HB.out rfl
    have c4:=AZ 4 E14 HB.out rfl
    have f0:=Ax 0 HB.out
    have f1:=Ax 1 HB.out
    have f2:=Ax 2 HB.out
    have f3:=Ax 3 HB.out
    have f4:=Ax 4 HB.out
    have y0:R<v20.heap.size:=AOR c0
    have t_0:=AZ 0 T0 HT.out rfl
    have t_1:=AZ 1 T1 HT.out rfl
    have t_2:=AZ 2 T2 HT.out rfl
    have t_3:=AZ 3 T3 HT.out rfl
    have t_4:=AZ 4 T4 HT.out rfl
    refine AOQ fun K21 k21=>?_
    have HK21:=AK k21
    clear k21
    go_wp2_with fail
    refine(Jn _ HP2.out 1 6 63 58 (by decide) (by decide) (by decide) (by decide) UL.2.2.2.2.1 UL.2.2.2.2.2.1 _).mono ?_
    rintro e w1 ⟨rfl,rfl⟩
    go_wp2
    refine Ew fun C21 v21 HX21 HG21 HW21=>?_
    clear c0 c1 c2 c3 c4 f0 f1 f2 f3 f4 t_0 t_1 t_2 t_3 t_4 y0
    replace HB:=AK (Qm (v:=.int .u64 C21) HB.out)
    rw[←HW21.out] at HB
    replace HT:=AK (AF HG21.out HT.out (by simpa using hTR))
    replace HZ:=AK (AF HG21.out HZ.out (by simp))
    replace HG:=AK (AE HG.out HG21.out (by rw[HRR.out];exact Nat.le_refl _))
    refine HK21.out _ _ ?_
    have c0:=AZ 0 A19 HB.out rfl
    have c1:=AZ 1 B20 HB.out rfl
    have c2:=AZ 2 C21 HB.out rfl
    have c3:=AZ 3 D17 HB.out rfl
    have c4:=AZ 4 E14 HB.out rfl
    have f0:=Ax 0 HB.out
    have f1:=Ax 1 HB.out
    have f2:=Ax 2 HB.out
    have f3:=Ax 3 HB.out
    have f4:=Ax 4 HB.out
    have y0:R<v21.heap.size:=AOR c0
    have t_0:=AZ 0 T0 HT.out rfl
    have t_1:=AZ 1 T1 HT.out rfl
    have t_2:=AZ 2 T2 HT.out rfl
    have t_3:=AZ 3 T3 HT.out rfl
    have t_4:=AZ 4 T4 HT.out rfl
    refine AOQ fun K22 k22=>?_
    have HK22:=AK k22
    clear k22
    go_wp2_with fail
    refine(Jn _ HP3.out 10 17 54 47 (by decide) (by decide) (by decide) (by decide) UL.2.2.2.2.2.2.1 UL.2.2.2.2.2.2.2.1 _).mono ?_
    rintro e w1 ⟨rfl,rfl⟩
    go_wp2
    refine Ew fun D22 v22 HX22 HG22 HW22=>?_
    clear c0 c1 c2 c3 c4 f0 f1 f2 f3 f4 t_0 t_1 t_2 t_3 t_4 y0
    replace HB:=AK (ZU (v:=.int .u64 D22) HB.out)
    rw[←HW22.out] at HB
    replace HT:=AK (AF HG22.out HT.out (by simpa using hTR))
    replace HZ:=AK (AF HG22.out HZ.out (by simp))
    replace HG:=AK (AE HG.out HG22.out (by rw[HRR.out];exact Nat.le_refl _))
    refine HK22.out _ _ ?_
    have c0:=AZ 0 A19 HB.out rfl
    have c1:=AZ 1 B20 HB.out rfl
    have c2:=AZ 2 C21 HB.out rfl
    have c3:=AZ 3 D22 HB.out rfl
    have c4:=AZ 4 E14 HB.out rfl
    have f0:=Ax 0 HB.out
    have f1:=Ax 1 HB.out
    have f2:=Ax 2 HB.out
    have f3:=Ax 3 HB.out
    have f4:=Ax 4 HB.out
    have y0:R<v22.heap.size:=AOR c0
    have t_0:=AZ 0 T0 HT.out rfl
    have t_1:=AZ 1 T1 HT.out rfl
    have t_2:=AZ 2 T2 HT.out rfl
    have t_3:=AZ 3 T3 HT.out rfl
    have t_4:=AZ 4 T4 HT.out rfl
    go_wp2_with fail
    refine(Jn _ HP4.out 7 41 57 23 (by decide) (by decide) (by decide) (by decide) UL.2.2.2.2.2.2.2.2.1 UL.2.2.2.2.2.2.2.2.2 _).mono ?_
    rintro e w1 ⟨rfl,rfl⟩
    go_wp2
    refine Ew fun E23 v23 HX23 HG23 HW23=>?_
    clear c0 c1 c2 c3 c4 f0 f1 f2 f3 f4 t_0 t_1 t_2 t_3 t_4 y0
    replace HB:=AK (ZV (v:=.int .u64 E23) HB.out)
    rw[←HW23.out] at HB
    replace HT:=AK (AF HG23.out HT.out (by simpa using hTR))
    replace HZ:=AK (AF HG23.out HZ.out (by simp))
    replace HG:=AK (AE HG.out HG23.out (by rw[HRR.out];exact Nat.le_refl _))
    rw[HX19.out,HX20.out,HX21.out,HX22.out,HX23.out] at HB
    refine HK3.out _ _ ?_
    go_wp2
    go_roundw
    case rel=>exact⟨k+1,rnd k S,by omega,by go_num,AK (by rw[HS.out];exact(WC k s).symm),HG,HZ,HB⟩
    case measure=>simp[intOf];omega
  · obtain rfl:k=12:=by omega
    have t1:decide (((12:Nat):Int)<12)=false:=by decide
    have c0:=AZ 0 (wi S.a) HB.out rfl
    have c1:=AZ 1 (wi S.b) HB.out rfl
    have c2:=AZ 2 (wi S.c) HB.out rfl
    have c3:=AZ 3 (wi S.d) HB.out rfl
    have c4:=AZ 4 (wi S.e) HB.out rfl
    have z0:=AZ 0 0 HZ.out rfl
    have f0:=Ax 0 HZ.out
    have z1:=AZ 1 0 HZ.out rfl
    have f1:=Ax 1 HZ.out
    have z2:=AZ 2 0 HZ.out rfl
    have f2:=Ax 2 HZ.out
    have z3:=AZ 3 0 HZ.out rfl
    have f3:=Ax 3 HZ.out
    have z4:=AZ 4 0 HZ.out rfl
    have f4:=Ax 4 HZ.out
    have hr:=ZV (v:=.int .u64 (wi S.e)) (ZU (v:=.int .u64 (wi S.d)) (Qm (v:=.int .u64 (wi S.c)) (ZT (v:=.int .u64 (wi S.b)) (Rj (v:=.int .u64 (wi S.a)) HZ.out))))
    have HR5:=AK hr
    clear hr
    refine AOQ fun K1 k1=>?_
    have HK1:=AK k1
    clear k1
    go_wp2
    refine HK1.out _ _ ?_
    refine AOQ fun K2 k2=>?_
    have HK2:=AK k2
    clear k2
    clear z0 z1 z2 z3 z4 f0 f1 f2 f3 f4 c0 c1 c2 c3 c4
    go_wp2_with (first
     | (refine CP rfl 105 (.tmp 1) rfl rfl (KP S) HB.out ?_)
     | (refine AY rfl 105 (.tmp 2) (.tmp 138) rfl rfl rfl (KP S) HZ.out rfl ?_;intro w2 g2 h2;have G2:=AK g2;have H2:=AK h2;clear g2 h2)
     | fail)
    have hP:S=Jm s:=HS.out
    subst hP
    exact CU (b:=R+1) rfl rfl (KP (Jm s)) H2.out rfl ⟨rfl,AE HG.out G2.out (by rw[HRR.out];exact Nat.le_succ _)⟩
end Go.Proofs.YtbfjfnbcmojpiaaGreat
