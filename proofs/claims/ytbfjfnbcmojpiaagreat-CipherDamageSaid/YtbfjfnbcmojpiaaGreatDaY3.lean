import Derived.Test.YtbfjfnbcmojpiaaGreatDaY2
set_option linter.unusedSimpArgs false
set_option linter.unusedVariables false
set_option maxRecDepth 100000
set_option maxHeartbeats 4000000
namespace Go.Proofs.YtbfjfnbcmojpiaaGreat
open Go.RowKit Go.Shelf
theorem Si {x y sl:List Nat} {j a b:Nat} (hj:j<sl.length) (ha:x[j]?=some a) (hb:y[j]?=some b) (h:∀k,k<j→sl[k]?=(JA x y)[k]?):∀k,k<j+1→(sl.set j (a ^^^ b))[k]?=(JA x y)[k]?:=by
 intro k hk
 rw[List.getElem?_set]
 by_cases e:j=k
 · subst e
   rw[if_pos rfl,if_pos hj]
   unfold JA
   rw[List.getElem?_zipWith,ha,hb]
 · rw[if_neg e]
   exact h k (by omega)
theorem XY {x y sl:List Nat} {n j:Nat} (hx:x.length=n) (hy:n≤y.length) (hs:sl.length=n) (hj:n≤j) (h:∀k,k<j→sl[k]?=(JA x y)[k]?):sl=JA x y:=by
 have hl:=M0 (a:=x) (b:=y) (by omega)
 refine List.ext_getElem? fun k=>?_
 by_cases hk:k<n
 · exact h k (by omega)
 · rw[List.getElem?_eq_none (by omega),List.getElem?_eq_none (by omega)]
theorem AJq {P:Program} {a b c:Int} {t:TypeId} {x y:Operand} {w:World} (h:bits .xor .u8 a b=c):(do eqGuard .xor t x y (.int .u8 a) (.int .u8 b);binOp .xor t (.int .u8 a) (.int .u8 b):Sem Value).run P w=.ok (.int .u8 c) w:=by
 subst h
 simp[eqGuard,binOp_xor]
 rfl
theorem MJ {P:Program} {a b:Nat} {t:TypeId} {x y:Operand} {w:World} (ha:a<256) (hb:b<256):(do eqGuard .xor t x y (.int .u8 (a:Int)) (.int .u8 (b:Int));binOp .xor t (.int .u8 (a:Int)) (.int .u8 (b:Int)):Sem Value).run P w=.ok (.int .u8 ((a ^^^ b:Nat):Int)) w:=AJq (u8_xor_nat a b ha hb)
section
variable {P:Program} {Q:Exit→Act→World→Prop} {ops:Array Oper} {rest:List Oper} {o:Oper} {a:Act} {w:World} {n:Nat} {D:List Deferred} {K:List (Nat×Value)}
theorem ADO {l:List Nat} {j x:Nat} (hj:j<l.length):bv (l.set j x)=bv (l.take j)++([.int .u8 (x:Int)]++bv (l.drop (j+1))):=by
 rw[M1,M1,M1,AHH hj]
 rfl
theorem Sj {l:List Nat} {j:Nat} (hj:j<l.length):bv l=bv (l.take j)++([.int .u8 (l[j]:Int)]++bv (l.drop (j+1))):=by
 rw[M1,M1,M1,Mo hj]
 rfl
theorem WX (sv:Sv n D K a) (hgd:o.guard=none) {T:TypeId} {x y:Operand} (ho:o.op=.store T x y) (hd:o.dst=none) {b j v:Nat} {l:List Nat} {t:TypeId} (hx:Nk K x=true) (hxv:Nl K x=.pointer (some ⟨b,j,none⟩)) (hy:Nk K y=true) (hyv:Nl K y=.int .u8 (v:Int)) (ty:TY P T [.int .u8 (v:Int)] (.int .u8 (v:Int)))
  (hb:w.heap[b]?=some (.cells (bv l).toArray t (0,0))) (hj:j<l.length)
  (h:∀w',w.grownBy w' (some b)→w'.heap[b]?=some (.cells (bv (l.set j v)).toArray t (0,0))→wpList P ops Q rest a w'):wpList P ops Q (o::rest) a w:=by
 rw[Sj hj] at hb
 refine Oo sv hgd ho hd hx hxv hy hyv ty hb (by rw[AO,List.length_take];omega) rfl fun w' g' hb'=>h w' g' ?_
 rw[hb',ADO hj]
end
theorem AFr (x y s0:List Nat) (hbx:By x) (hby:By y) (n:Nat) (hn63:n≤1000000) (hnx:x.length=n) (m:Nat) (hym:y.length=m) (hny:n≤m) (so ao bo:Option Addr) (sc ac bc:Nat) (w w1:World) (HG:w.grownBy w1 none) (hs:Own w1 5 1 (.slice so n sc) n (s0.flatMap cb)) (ha:SlB w1 1 (.slice ao n ac) n (bv x)) (hb:SlB w1 1 (.slice bo m bc) m (bv y)) (lo_hs:∀k,BC (.slice so n sc) k→w.heap.size≤k) (ap_ha_hs:∀k,BC (.slice ao n ac) k→¬BC (.slice so n sc) k) (ap_hb_hs:∀k,BC (.slice bo m bc) k→¬BC (.slice so n sc) k) :
   Calls Tryz.prog 106 #[.slice so n sc,.slice ao n ac,.slice bo m bc] w1 fun e w'=>e=.returned (.slice so n sc)∧w.grownBy w' none∧Own w' 5 1 (.slice so n sc) n (bv (JA x y)):=by
 refine BV Tryz.func106 rfl Tryz.ntmps106 rfl fun a0 sv0=>?_
 have hs0:s0.length=n:=(ALN (Sl.of_own hs) Sg (by decide)).symm
 replace sv0:Sv 27 [] [(0,.slice so n sc),(1,.slice ao n ac),(2,.slice bo m bc)] a0:=sv0
 refine AOQ fun K1 k1=>?_
 refine AOP ?_
 refine AS (v:=.slice none 0 0) sv0 r6 fun a2 sv2=>?_
 refine AD ?_
 refine k1 _ _ ?_
 refine AOQ fun K3 k3=>?_
 refine AOQ fun K4 k4=>?_
 refine AOP ?_
 refine AH sv2 3 [(8,.slice so n sc),(9,.int .i64 ((n:Nat))),(10,.int .i64 0)]
   ⟨ym r5,BJ (Tryz.underlying29) rfl rfl trivial (oy rfl rfl) (fun _=>rfl),Fw (.inl rfl) rfl trivial (fun _=>rfl),AOW⟩ fun a5 w5 g5 sv5=>?_
 refine AD ?_
 refine k4 _ _ ?_
 refine BH fun Q6 x6 y6 rt6 o6=>?_
 replace ha:=ha.kn g5
 replace hb:=hb.kn g5
 replace hs:=hs.kn g5
 replace HG:=AA HG g5
 refine wp_loop (fun a w'=>∃(i:Nat) (sl:List Nat),(i≤n)∧(sl.length=n)∧(∀k,k<i→sl[k]?=(JA x y)[k]?)∧Sv 27 [] [(10,.int .i64 ((i:Int))),(8,.slice so n sc),(9,.int .i64 ((n:Nat))),(6,.slice none 0 0),(0,.slice so n sc),(1,.slice ao n ac),(2,.slice bo m bc)] a∧w.grownBy w' none∧SlB w' 1 (.slice ao n ac) n (bv x)∧SlB w' 1 (.slice bo m bc) m (bv y)∧Own w' 5 1 (.slice so n sc) n (sl.flatMap cb)∧(∀k,BC (.slice ao n ac) k→¬BC (.slice so n sc) k)∧(∀k,BC (.slice bo m bc) k→¬BC (.slice so n sc) k)∧(∀k,BC (.slice so n sc) k→w.heap.size≤k)) (fun a _=>(n-intOf (a.tmps.getD 10 undef)).toNat) ⟨0,s0,Nat.zero_le _,hs0,fun k hk=>by omega,⟨sv5.1,sv5.2.1,sv5.2.2.2.2.1,sv5.2.2.1,sv5.2.2.2.1,sv5.2.2.2.2.2.1,sv5.2.2.2.2.2.2.1,sv5.2.2.2.2.2.2.2.1,(AG sv5).1,AOW⟩,HG,ha,hb,hs,ap_ha_hs,ap_hb_hs,lo_hs⟩ fun a7 w7 hI7=>?_
 clear ha
 clear hb
 clear hs
 clear HG
 obtain⟨i,sl,hin,hsl,hq,sv7,HG,ha,hb,hs,ap_ha_hs,ap_hb_hs,lo_hs⟩:=hI7
 refine AOQ fun K8 k8=>?_
 by_cases hi:i<n
 · have hix:i<x.length:=by omega
   have hiy:i<y.length:=by omega
   have his:i<sl.length:=by omega
   obtain⟨xa,hx_xa⟩:∃zx,x[i]'hix=zx:=⟨_,rfl⟩
   obtain⟨xb,hx_xb⟩:∃zx,y[i]'hiy=zx:=⟨_,rfl⟩
   obtain⟨xs,hx_xs⟩:∃zx,sl[i]'his=zx:=⟨_,rfl⟩
   have hxa:x[i]?=some xa:=by rw[←hx_xa];exact List.getElem?_eq_getElem _
   have hxb:y[i]?=some xb:=by rw[←hx_xb];exact List.getElem?_eq_getElem _
   have ba:xa<256:=hbx _ (List.mem_of_getElem? hxa)
   have bb:xb<256:=hby _ (List.mem_of_getElem? hxb)
   refine AOP ?_
   refine AH sv7 1 [(11,.bool true)]
    ⟨Fg r7 (fun _=>BR (by simp;omega)),AOW⟩ fun a9 w9 g9 sv9=>?_
   refine AD ?_
   refine k8 _ _ ?_
   refine AOQ fun K10 k10=>?_
   refine Am sv9 rfl rfl ?_
   refine AOU ?_
   refine k10 _ _ ?_
   refine AOQ fun K11 k11=>?_
   refine BH fun Q12 x12 y12 rt12 o12=>?_
   refine AOQ fun K13 k13=>?_
   refine AOP ?_
   refine AH sv9 1 [(12,.int .i64 ((i:Int)))]
    ⟨ym r5,AOW⟩ fun a14 w14 g14 D1=>?_
   have AAO:=AA g9 g14
   refine AS (v:=.int .i64 ((i:Int))) D1 r6 fun a15 Fp=>?_
   refine AD ?_
   refine k13 _ _ ?_
   replace ha:=ha.kn AAO
   replace hb:=hb.kn AAO
   replace hs:=hs.kn AAO
   refine DP (Fp.st w14) (by kernel_rfl) 12 [(13,Sp.is (.slice so n sc)),(14,Sp.is (.int .i64 ((i:Int)))),(15,Sp.is (.slice ao n ac)),(16,Sp.is (.int .i64 ((i:Int)))),(17,Sp.is (pk ((bO ao)) (oO ao+i*1))),(18,Sp.is (.int .u8 ((xa:Int)))),(19,Sp.is (.slice bo m bc)),(20,Sp.is (.int .i64 ((i:Int)))),(21,Sp.is (pk ((bO bo)) (oO bo+i*1))),(22,Sp.is (.int .u8 ((xb:Int)))),(23,Sp.is (.int .u8 (((xa ^^^ xb:Nat):Int)))),(24,Sp.is (pk ((bO so)) (oO so+i*1)))] rfl (by kernel_rfl) (by kernel_rfl) (by kernel_rfl) [] (by kernel_rfl)
    ⟨ym r5,ym r5,ym r5,ym r5,BD rq8 (fun w=>CF Tryz.underlying29 (by kernel_rfl) (ha.1) (by omega) (rfl) w),Bj r6 (fun _ g=>Ad (tyB ((xa:Int))) (by have:=Gl (ha.kn g).1 hix;rw[hx_xa] at this;exact this)),ym r5,ym r5,BD rq8 (fun w=>CF Tryz.underlying29 (by kernel_rfl) (hb.1) (by omega) (rfl) w),Bj r6 (fun _ g=>Ad (tyB ((xb:Int))) (by have:=Gl (hb.kn g).1 hiy;rw[hx_xb] at this;exact this)),Fg r7 (fun _=>MJ ba bb),BD rq8 (fun w=>CF Tryz.underlying29 (by kernel_rfl) ((Sl.of_own hs)) (by omega) (rfl) w),AOW⟩ trivial
    [] (by kernel_rfl) trivial ⟨.inl rfl,.inl rfl,.inl rfl,.inl rfl,.inl rfl,.inl rfl,.inl rfl,.inl rfl,.inl rfl,.inl rfl,.inl rfl,.inl rfl,AOW⟩ (by kernel_rfl) fun a16 w16 g16 st16 nd16=>?_
   obtain⟨hn16,hd16,e16_13,e16_14,e16_15,e16_16,e16_17,e16_18,e16_19,e16_20,e16_21,e16_22,e16_23,e16_24,e16_7,e16_12,e16_11,e16_10,e16_8,e16_9,e16_6,e16_0,e16_1,e16_2,-⟩:=st16
   have DG:Sv 27 [] [(7,_),(12,_),(11,_),(10,_),(8,_),(9,_),(6,_),(0,_),(1,_),(2,_),(23,_),(24,_)] a16:=⟨hn16,hd16,e16_7,e16_12,e16_11,e16_10,e16_8,e16_9,e16_6,e16_0,e16_1,e16_2,e16_23,e16_24,AOW⟩
   replace hs:=hs.kn g16
   refine Jt (c:=cb) (el:=(xa ^^^ xb)) DG rfl rfl rfl rfl rfl rfl rfl (tyB (((xa ^^^ xb:Nat):Int))) hs Sg (by decide) (by first|omega|(simp only[List.length_set];omega)) rfl fun w17 g17 h17=>?_
   replace ha:=(ha.kn g16).offR g17 (fun k hk e=>ap_ha_hs k hk (CX (j:=i) hs (by omega) e))
   replace hb:=(hb.kn g16).offR g17 (fun k hk e=>ap_hb_hs k hk (CX (j:=i) hs (by omega) e))
   replace HG:=Bu (AA (AA HG AAO) g16) g17 fun k e=>lo_hs k (CX (j:=i) hs (by omega) e)
   refine AD ?_
   refine y12 _ _ ?_
   refine k11 _ _ ?_
   refine AOP ?_
   refine AH DG 1 [(25,.int .i64 (((i+1:Nat):Int)))]
    ⟨Ce r6 (fun _=>Dd (by rw[BT (by omega) (by omega)];omega)),AOW⟩ fun a18 w18 g18 CY=>?_
   refine AH (CY.dl [10]) 1 [(10,.int .i64 (((i+1:Nat):Int)))]
    ⟨ym r5,AOW⟩ fun a19 w19 g19 Dq=>?_
   have AJr:=AA g18 g19
   refine AD ?_
   replace ha:=ha.kn AJr
   replace hb:=hb.kn AJr
   replace hs:=h17.kn AJr
   replace HG:=AA HG AJr
   exact⟨⟨i+1,sl.set i (xa ^^^ xb),by omega,by rw[List.length_set];exact hsl,Si (by omega) hxa hxb hq,⟨Dq.1,Dq.2.1,Dq.2.2.1,Dq.2.2.2.2.2.2.2.1,(AG Dq).1,(AG Dq).2.1,(AG Dq).2.2.1,(AG Dq).2.2.2.1,(AG Dq).2.2.2.2.1,AOW⟩,HG,ha,hb,hs,ap_ha_hs,ap_hb_hs,lo_hs⟩,by rw[show _=_ from Dq.2.2.1,show _=_ from sv7.2.2.1];simp[intOf];omega⟩
 · have hfin:=XY hnx (by omega) hsl (by omega) hq
   refine AOP ?_
   refine AH sv7 1 [(11,.bool false)]
    ⟨Fg r7 (fun _=>BR (by simp;omega)),AOW⟩ fun a20 w20 g20 Du=>?_
   refine AD ?_
   refine k8 _ _ ?_
   refine AOQ fun K21 k21=>?_
   refine Au Du rfl rfl ?_
   refine wp_exit ?_
   repeat refine CA ?_
   refine x6 _ _ ?_
   refine k3 _ _ ?_
   refine AOQ fun K22 k22=>?_
   refine AOP ?_
   refine AH Du 1 [(26,.slice so n sc)]
    ⟨ym r5,AOW⟩ fun a23 w23 g23 Cc=>?_
   have AMc:=AA g20 g23
   refine AS (v:=.slice so n sc) Cc r6 fun a24 EN=>?_
   refine AD ?_
   refine k22 _ _ ?_
   replace hs:=hs.kn AMc
   replace HG:=AA HG AMc
   refine AOT ?_
   repeat refine AM ?_
   rw[hfin,←M1] at hs
   refine Ap (fn:=Tryz.f106) EN (BK (p:=6) Tryz.results106 EN rfl rfl) ?_
   exact⟨rfl,HG,hs⟩
theorem AFs {x y:List Nat} (hx:Dg x) (hy:Dg y):Dg (JA x y):=⟨by rw[M0 (by rw[hx.1,hy.1];omega),hx.1],AEU hx.2 hy.2⟩
theorem AFt (z0 x y:List Nat) (hz:Dg z0) (hx:Dg x) (hy:Dg y) (w:World) :
   Calls Tryz.prog 104 #[AQ z0,AQ x,AQ y] w fun e w'=>e=.returned (AQ (JA x y))∧w.grownBy w' none:=by
 have hz0:z0.length=32:=hz.1
 refine BV Tryz.func104 rfl Tryz.ntmps104 rfl fun a0 sv0=>?_
 have HG:=World.grownBy.refl w none
 replace sv0:Sv 24 [] [(0,AQ z0),(1,AQ x),(2,AQ y)] a0:=sv0
 refine AOQ fun K1 k1=>?_
 refine AOP ?_
 refine Bi sv0 r6 (Bb z0 hz.1) fun a2 w2 I8 Ki g2 z2 An sv2=>?_
 have AJs:=Bq HG Ki
 refine Bi sv2 r6 (Bb x hx.1) fun a3 w3 KR RX g3 z3 Bc sv3=>?_
 have XZ:=Ao An RX
 replace An:=AC g3 An
 refine Bi sv3 r6 (Bb y hy.1) fun a4 w4 KS AEY g4 z4 CS sv4=>?_
 have Xa:=Ao An AEY
 replace An:=AC g4 An
 replace HG:=AA (AA (AA HG g2) g3) g4
 refine A9 (T:=23) (Z:=(bv AR)) sv4 rfl rfl rfl (fun a w=>by kernel_rfl) fun a5 w5 AMd AEZ g5 z5 M2 sv5=>?_
 have Xb:=Ao An AEZ
 have AJt:=Bq HG AEZ
 replace An:=AC g5 An
 refine AD ?_
 refine k1 _ _ ?_
 refine AOQ fun K6 k6=>?_
 refine AOQ fun K7 k7=>?_
 refine AOP ?_
 refine AH sv5 3 [(8,AQ z0),(9,.int .i64 32),(10,.int .i64 0)]
   ⟨yl r6 (Bb z0 hz.1) An,Fw (.inl rfl) rfl trivial (fun _=>rfl),Fw (.inl rfl) rfl trivial (fun _=>rfl),AOW⟩ fun a8 w8 g8 sv8=>?_
 refine AD ?_
 refine k7 _ _ ?_
 refine BH fun Q9 x9 y9 rt9 o9=>?_
 replace An:=AC g8 An
 replace Bc:=AC g8 (AC g5 (AC g4 Bc))
 replace CS:=AC g8 (AC g5 CS)
 replace M2:=AC g8 M2
 replace HG:=AA (AA HG g5) g8
 refine wp_loop (fun a w'=>∃(j:Nat) (sl:List Nat),(j≤32)∧(sl.length=32)∧(∀k,j≤k→sl[k]?=z0[k]?)∧(∀k,k<j→sl[k]?=(JA x y)[k]?)∧Sv 24 [] [(10,.int .i64 ((j:Int))),(8,AQ z0),(9,.int .i64 32),(6,pt AMd),(5,pt KS),(4,pt KR),(3,pt I8),(0,AQ z0),(1,AQ x),(2,AQ y)] a∧w.grownBy w' none∧w'.heap[I8]?=some (.cells (bv sl).toArray 23 (0,0))∧w'.heap[KR]?=some (.cells (bv x).toArray 23 (0,0))∧w'.heap[KS]?=some (.cells (bv y).toArray 23 (0,0))∧w'.heap[AMd]?=some (.cells ((bv AR)).toArray 23 (0,0))) (fun a _=>(32-intOf (a.tmps.getD 10 undef)).toNat) ⟨0,z0,by omega,hz0,fun k hk=>rfl,fun k hk=>by omega,⟨sv8.1,sv8.2.1,sv8.2.2.2.2.1,sv8.2.2.1,sv8.2.2.2.1,sv8.2.2.2.2.2.1,sv8.2.2.2.2.2.2.1,sv8.2.2.2.2.2.2.2.1,(AG sv8).1,(AG sv8).2.1,(AG sv8).2.2.1,(AG sv8).2.2.2.1,AOW⟩,HG,An,Bc,CS,M2⟩ fun a10 w10 hI10=>?_
 clear An
 clear Bc
 clear CS
 clear M2
 clear HG
 obtain⟨j,sl,hj32,hsl,hkeep,hq,Bt,HG,An,Bc,CS,M2⟩:=hI10
 refine AOQ fun K11 k11=>?_
 by_cases hj:j<32
 · obtain⟨xa,hxa⟩:∃a,x[j]?=some a:=⟨_,List.getElem?_eq_getElem (by rw[hx.1];exact hj)⟩
   obtain⟨xb,hxb⟩:∃b,y[j]?=some b:=⟨_,List.getElem?_eq_getElem (by rw[hy.1];exact hj)⟩
   have ba:xa<256:=hx.2 _ (List.mem_of_getElem? hxa)
   have bb:xb<256:=hy.2 _ (List.mem_of_getElem? hxb)
   refine AOP ?_
   refine AH Bt 1 [(11,.bool true)]
    ⟨Fg r7 (fun _=>BR (by simp;omega)),AOW⟩ fun a12 w12 g12 DF=>?_
   refine AD ?_
   refine k11 _ _ ?_
   refine AOQ fun K13 k13=>?_
   refine Am DF rfl rfl ?_
   refine AOU ?_
   refine k13 _ _ ?_
   refine AOQ fun K14 k14=>?_
   refine BH fun Q15 x15 y15 rt15 o15=>?_
   refine AOQ fun K16 k16=>?_
   refine AOP ?_
   refine AH DF 1 [(12,.int .i64 ((j:Int)))]
    ⟨ym r5,AOW⟩ fun a17 w17 g17 EK=>?_
   have XR:=AA g12 g17
   refine AS (v:=.int .i64 ((j:Int))) EK r6 fun a18 CY=>?_
   refine AD ?_
   refine k16 _ _ ?_
   replace Bc:=AC XR Bc
   replace CS:=AC XR CS
   refine DP (CY.st w17) (by kernel_rfl) 9 [(13,Sp.is (.int .i64 ((j:Int)))),(14,Sp.is (.int .i64 ((j:Int)))),(15,Sp.is (pk KR j)),(16,Sp.is (.int .u8 ((xa:Int)))),(17,Sp.is (.int .i64 ((j:Int)))),(18,Sp.is (pk KS j)),(19,Sp.is (.int .u8 ((xb:Int)))),(20,Sp.is (.int .u8 (((xa ^^^ xb:Nat):Int)))),(21,Sp.is (pk I8 j))] rfl (by kernel_rfl) (by kernel_rfl) (by kernel_rfl) [] (by kernel_rfl)
    ⟨ym r5,ym r5,BD rq8 (fun w=>JI hj w),Bj r6 (fun _ g=>Ad (OI (xa:Int)) (by simpa using FQ (o:=0) (Av (AF g Bc (by simp))) hxa)),ym r5,BD rq8 (fun w=>JI hj w),Bj r6 (fun _ g=>Ad (OI (xb:Int)) (by simpa using FQ (o:=0) (Av (AF g CS (by simp))) hxb)),Fg r7 (fun _=>MJ ba bb),BD rq8 (fun w=>JI hj w),AOW⟩ trivial
    [] (by kernel_rfl) trivial ⟨.inl rfl,.inl rfl,.inl rfl,.inl rfl,.inl rfl,.inl rfl,.inl rfl,.inl rfl,.inl rfl,AOW⟩ (by kernel_rfl) fun a19 w19 g19 st19 nd19=>?_
   obtain⟨hn19,hd19,e19_13,e19_14,e19_15,e19_16,e19_17,e19_18,e19_19,e19_20,e19_21,e19_7,e19_12,e19_11,e19_10,e19_8,e19_9,e19_6,e19_5,e19_4,e19_3,e19_0,e19_1,e19_2,-⟩:=st19
   have Dq:Sv 24 [] [(7,_),(12,_),(11,_),(10,_),(8,_),(9,_),(6,_),(5,_),(4,_),(3,_),(0,_),(1,_),(2,_),(20,_),(21,_)] a19:=⟨hn19,hd19,e19_7,e19_12,e19_11,e19_10,e19_8,e19_9,e19_6,e19_5,e19_4,e19_3,e19_0,e19_1,e19_2,e19_20,e19_21,AOW⟩
   replace An:=AC g19 (AC XR An)
   refine WX Dq rfl rfl rfl rfl rfl rfl rfl (OI _) An (by omega) fun w20 g20 h20=>?_
   refine AD ?_
   refine y15 _ _ ?_
   refine k14 _ _ ?_
   refine AOP ?_
   refine AH Dq 1 [(22,.int .i64 (((j+1:Nat):Int)))]
    ⟨Ce r6 (fun _=>Dd (by rw[BT (by omega) (by omega)];omega)),AOW⟩ fun a21 w21 g21 Dl=>?_
   refine AH (Dl.dl [10]) 1 [(10,.int .i64 (((j+1:Nat):Int)))]
    ⟨ym r5,AOW⟩ fun a22 w22 g22 B7=>?_
   have Qs:=AA g21 g22
   refine AD ?_
   replace An:=AC Qs h20
   replace Bc:=AC Qs (Aa g20 (AC g19 Bc) XZ)
   replace CS:=AC Qs (Aa g20 (AC g19 CS) Xa)
   replace M2:=AC Qs (Aa g20 (AC g19 (AC XR M2)) Xb)
   replace HG:=AA (AE (AA (AA HG XR) g19) g20 AJs) Qs
   exact⟨⟨j+1,sl.set j (xa ^^^ xb),by omega,by rw[List.length_set];exact hsl,fun k hk=>by rw[List.getElem?_set_ne (by omega)];exact hkeep k (by omega),Si (by omega) hxa hxb hq,⟨B7.1,B7.2.1,B7.2.2.1,B7.2.2.2.2.2.2.2.1,(AG B7).1,(AG B7).2.1,(AG B7).2.2.1,(AG B7).2.2.2.1,(AG B7).2.2.2.2.1,(AG B7).2.2.2.2.2.1,(AG B7).2.2.2.2.2.2.1,(AG B7).2.2.2.2.2.2.2.1,AOW⟩,HG,An,Bc,CS,M2⟩,by rw[show _=_ from B7.2.2.1,show _=_ from Bt.2.2.1];simp[intOf];omega⟩
 · have hfin:=XY hx.1 (by rw[hy.1];omega) hsl (by omega) hq
   have hsn:Dg sl:=hfin▸AFs hx hy
   refine AOP ?_
   refine AH Bt 1 [(11,.bool false)]
    ⟨Fg r7 (fun _=>BR (by simp;omega)),AOW⟩ fun a23 w23 g23 Cc=>?_
   refine AD ?_
   refine k11 _ _ ?_
   refine AOQ fun K24 k24=>?_
   refine Au Cc rfl rfl ?_
   refine wp_exit ?_
   repeat refine CA ?_
   refine x9 _ _ ?_
   refine k6 _ _ ?_
   refine AOQ fun K25 k25=>?_
   refine AOP ?_
   refine AH Cc 1 [(23,AQ sl)]
    ⟨yl r6 (Bb sl hsn.1) (AC g23 An),AOW⟩ fun a26 w26 g26 DH=>?_
   have AMe:=AA g23 g26
   refine Aq DH r7 (Bb sl hsn.1) (AC AMe M2) (EM hsn) fun w27 g27 h27=>?_
   replace HG:=AE (AA HG AMe) g27 AJt
   replace M2:=h27
   refine AD ?_
   refine k25 _ _ ?_
   refine AOT ?_
   repeat refine AM ?_
   refine Ap (fn:=Tryz.f104) DH (EE (p:=6) Tryz.results104 DH rfl rfl (Bb sl hsn.1) M2) ?_
   exact⟨by rw[hfin],HG⟩
theorem WY (x k:List Nat) (hx:Dg x) (hk:Dg k) (w:World) :
   Calls Tryz.prog 46 #[AQ x,AQ k] w fun e w'=>e=.returned (AQ (Mg x k))∧w.grownBy w' none:=by
 obtain⟨y,hye⟩:∃y,msk k=y:=⟨_,rfl⟩
 have hy:Dg y:=hye▸Bp 283 k
 obtain⟨z0,hz⟩:∃z,z=x:=⟨_,rfl⟩
 have hz0:z0.length=32:=by rw[hz];exact hx.1
 refine BV Tryz.func46 rfl Tryz.ntmps46 rfl fun a0 sv0=>?_
 have HG:=World.grownBy.refl w none
 replace sv0:Sv 23 [] [(0,AQ x),(1,AQ k)] a0:=sv0
 refine AOQ fun K1 k1=>?_
 refine AOP ?_
 refine Bi sv0 r6 (Bb x hx.1) fun a2 w2 Cp Dt g2 z2 AJ sv2=>?_
 have GD:=Bq HG Dt
 refine Bi sv2 r6 (Bb k hk.1) fun a3 w3 Bn Fh g3 z3 AI sv3=>?_
 have Hx:=Ao AJ Fh
 replace AJ:=AC g3 AJ
 replace HG:=AA (AA HG g2) g3
 refine A9 (T:=23) (Z:=(bv AR)) sv3 rfl rfl rfl (fun a w=>by kernel_rfl) fun a4 w4 Ev Bl g4 z4 AL sv4=>?_
 have A3:=Ao AJ Bl
 have Bm:=Bq HG Bl
 replace AI:=AC g4 AI
 refine AD ?_
 refine k1 _ _ ?_
 refine AOQ fun K5 k5=>?_
 refine AOP ?_
 refine AH sv4 2 [(7,AQ k),(8,AQ y)]
   ⟨yl r6 (Bb k hk.1) AI,Ag [.int .u64 283,AQ k,.slice none 0 0] Tryz.func35 (by kernel_rfl) rq4 ⟨rfl,(oy rfl rfl),rfl,AOW⟩ (A1 fun W g=>by rw[←hye];exact Lb (n:=283) (by decide) rfl hk W),AOW⟩ fun a6 w6 g6 sv6=>?_
 replace AJ:=AC g6 (AC g4 AJ)
 replace AI:=AC g6 AI
 replace AL:=AC g6 AL
 replace HG:=AA (AA HG g4) g6
 refine A9 (T:=23) (Z:=(bv AR)) sv6 rfl rfl rfl (fun a w=>by kernel_rfl) fun a7 w7 ALg Rb g7 z7 M3 sv7=>?_
 have O7:=Ao AJ Rb
 have Xc:=Ao AI Rb
 have Xd:=Ao AL Rb
 have AJu:=Bq HG Rb
 refine Aq sv7 r7 (Bb y hy.1) M3 (EM hy) fun w8 g8 h8=>?_
 replace AJ:=Aa g8 (AC g7 AJ) (Ne.symm O7)
 replace AI:=Aa g8 (AC g7 AI) (Ne.symm Xc)
 replace AL:=Aa g8 (AC g7 AL) (Ne.symm Xd)
 replace HG:=AE (AA HG g7) g8 AJu
 replace M3:=h8
 refine AD ?_
 refine k5 _ _ ?_
 refine AOQ fun K9 k9=>?_
 refine AOQ fun K10 k10=>?_
 refine AOP ?_
 refine AS (v:=.int .i64 0) sv7 r6 fun a11 CQ=>?_
 refine AD ?_
 refine k10 _ _ ?_
 refine BH fun Q12 x12 y12 rt12 o12=>?_
 rw[←hz] at AJ
 refine wp_loop (fun a w'=>∃(j:Nat) (sl:List Nat),(j≤32)∧(sl.length=32)∧(∀k,j≤k→sl[k]?=z0[k]?)∧(∀k,k<j→sl[k]?=(JA x y)[k]?)∧Sv 23 [] [(6,.int .i64 ((j:Int))),(5,pt ALg),(7,AQ k),(8,AQ y),(4,pt Ev),(3,pt Bn),(2,pt Cp),(0,AQ x),(1,AQ k)] a∧w.grownBy w' none∧w'.heap[Cp]?=some (.cells (bv sl).toArray 23 (0,0))∧w'.heap[Bn]?=some (.cells (bv k).toArray 23 (0,0))∧w'.heap[Ev]?=some (.cells ((bv AR)).toArray 23 (0,0))∧w'.heap[ALg]?=some (.cells (bv y).toArray 23 (0,0))) (fun a _=>(32-intOf (a.tmps.getD 6 undef)).toNat) ⟨0,z0,by omega,hz0,fun k hk=>rfl,fun k hk=>by omega,⟨CQ.1,CQ.2.1,CQ.2.2.1,CQ.2.2.2.1,CQ.2.2.2.2.1,CQ.2.2.2.2.2.1,CQ.2.2.2.2.2.2.1,CQ.2.2.2.2.2.2.2.1,(AG CQ).1,(AG CQ).2.1,(AG CQ).2.2.1,AOW⟩,HG,AJ,AI,AL,M3⟩ fun a13 w13 hI13=>?_
 clear AJ
 clear AI
 clear AL
 clear M3
 clear HG
 obtain⟨j,sl,hj32,hsl,hkeep,hq,Cx,HG,AJ,AI,AL,M3⟩:=hI13
 refine AOQ fun K14 k14=>?_
 refine AOQ fun K15 k15=>?_
 by_cases hj:j<32
 · obtain⟨xa,hxa⟩:∃a,x[j]?=some a:=⟨_,List.getElem?_eq_getElem (by rw[hx.1];exact hj)⟩
   obtain⟨xb,hxb⟩:∃b,y[j]?=some b:=⟨_,List.getElem?_eq_getElem (by rw[hy.1];exact hj)⟩
   have ba:xa<256:=hx.2 _ (List.mem_of_getElem? hxa)
   have bb:xb<256:=hy.2 _ (List.mem_of_getElem? hxb)
   have hxs:sl[j]?=some xa:=(hkeep j (Nat.le_refl _)).trans (hz.symm▸hxa)
   refine AOP ?_
   refine AH Cx 2 [(9,.int .i64 ((j:Int))),(10,.bool true)]
    ⟨ym r5,Ce r6 (fun _=>BR (by simp;omega)),AOW⟩ fun a16 w16 g16 DG=>?_
   refine AD ?_
   refine k15 _ _ ?_
   refine Am DG rfl rfl ?_
   refine AOU ?_
   refine k14 _ _ ?_
   refine AOQ fun K17 k17=>?_
   refine BH fun Q18 x18 y18 rt18 o18=>?_
   replace AJ:=AC g16 AJ
   replace M3:=AC g16 M3
   refine DP (DG.st w16) (by kernel_rfl) 9 [(13,Sp.is (.int .i64 ((j:Int)))),(14,Sp.is (.int .i64 ((j:Int)))),(15,Sp.is (pk Cp j)),(16,Sp.is (.int .u8 ((xa:Int)))),(17,Sp.is (.int .i64 ((j:Int)))),(18,Sp.is (pk ALg j)),(19,Sp.is (.int .u8 ((xb:Int)))),(20,Sp.is (.int .u8 (((xa ^^^ xb:Nat):Int)))),(21,Sp.is (pk Cp j))] rfl (by kernel_rfl) (by kernel_rfl) (by kernel_rfl) [] (by kernel_rfl)
    ⟨ym r5,ym r5,BD rq8 (fun w=>JI hj w),Bj r6 (fun _ g=>Ad (OI (xa:Int)) (by simpa using FQ (o:=0) (Av (AF g AJ (by simp))) hxs)),ym r5,BD rq8 (fun w=>JI hj w),Bj r6 (fun _ g=>Ad (OI (xb:Int)) (by simpa using FQ (o:=0) (Av (AF g M3 (by simp))) hxb)),Fg r7 (fun _=>MJ ba bb),BD rq8 (fun w=>JI hj w),AOW⟩ trivial
    [] (by kernel_rfl) trivial ⟨.inl rfl,.inl rfl,.inl rfl,.inl rfl,.inl rfl,.inl rfl,.inl rfl,.inl rfl,.inl rfl,AOW⟩ (by kernel_rfl) fun a19 w19 g19 st19 nd19=>?_
   obtain⟨hn19,hd19,e19_13,e19_14,e19_15,e19_16,e19_17,e19_18,e19_19,e19_20,e19_21,e19_9,e19_10,e19_6,e19_5,e19_7,e19_8,e19_4,e19_3,e19_2,e19_0,e19_1,-⟩:=st19
   have Dq:Sv 23 [] [(9,_),(10,_),(6,_),(5,_),(7,_),(8,_),(4,_),(3,_),(2,_),(0,_),(1,_),(20,_),(21,_)] a19:=⟨hn19,hd19,e19_9,e19_10,e19_6,e19_5,e19_7,e19_8,e19_4,e19_3,e19_2,e19_0,e19_1,e19_20,e19_21,AOW⟩
   replace AJ:=AC g19 AJ
   refine WX Dq rfl rfl rfl rfl rfl rfl rfl (OI _) AJ (by omega) fun w20 g20 h20=>?_
   refine AD ?_
   refine y18 _ _ ?_
   refine k17 _ _ ?_
   refine AOP ?_
   refine AH Dq 2 [(11,.int .i64 ((j:Int))),(12,.int .i64 (((j+1:Nat):Int)))]
    ⟨ym r5,Ce r6 (fun _=>Dd (by rw[BT (by omega) (by omega)];omega)),AOW⟩ fun a21 w21 g21 Dl=>?_
   refine AS (v:=.int .i64 (((j+1:Nat):Int))) Dl r6 fun a22 B7=>?_
   refine AD ?_
   replace AJ:=AC g21 h20
   replace AI:=AC g21 (Aa g20 (AC g19 (AC g16 AI)) Hx)
   replace AL:=AC g21 (Aa g20 (AC g19 (AC g16 AL)) A3)
   replace M3:=AC g21 (Aa g20 (AC g19 M3) O7)
   replace HG:=AA (AE (AA (AA HG g16) g19) g20 GD) g21
   exact⟨⟨j+1,sl.set j (xa ^^^ xb),by omega,by rw[List.length_set];exact hsl,fun k hk=>by rw[List.getElem?_set_ne (by omega)];exact hkeep k (by omega),Si (by omega) hxa hxb hq,⟨B7.1,B7.2.1,B7.2.2.1,B7.2.2.2.2.2.2.2.1,(AG B7).1,(AG B7).2.1,(AG B7).2.2.1,(AG B7).2.2.2.1,(AG B7).2.2.2.2.1,(AG B7).2.2.2.2.2.1,(AG B7).2.2.2.2.2.2.1,AOW⟩,HG,AJ,AI,AL,M3⟩,by rw[show _=_ from B7.2.2.1,show _=_ from Cx.2.2.1];simp[intOf];omega⟩
 · have hfin:=XY hx.1 (by rw[hy.1];omega) hsl (by omega) hq
   have hsn:Dg sl:=hfin▸AFs hx hy
   refine AOP ?_
   refine AH Cx 2 [(9,.int .i64 ((j:Int))),(10,.bool false)]
    ⟨ym r5,Ce r6 (fun _=>BR (by simp;omega)),AOW⟩ fun a23 w23 g23 Cc=>?_
   refine AD ?_
   refine k15 _ _ ?_
   refine Au Cc rfl rfl ?_
   refine wp_exit ?_
   repeat refine CA ?_
   refine x12 _ _ ?_
   refine k9 _ _ ?_
   refine AOQ fun K24 k24=>?_
   refine AOP ?_
   refine AH Cc 1 [(22,AQ sl)]
    ⟨yl r6 (Bb sl hsn.1) (AC g23 AJ),AOW⟩ fun a25 w25 g25 DR=>?_
   have JJ:=AA g23 g25
   refine Aq DR r7 (Bb sl hsn.1) (AC JJ AL) (EM hsn) fun w26 g26 h26=>?_
   replace HG:=AE (AA HG JJ) g26 Bm
   replace AL:=h26
   refine AD ?_
   refine k24 _ _ ?_
   refine AOT ?_
   repeat refine AM ?_
   refine Ap (fn:=Tryz.f46) DR (EE (p:=4) Tryz.results46 DR rfl rfl (Bb sl hsn.1) AL) ?_
   exact⟨by rw[hfin,←hye];rfl,HG⟩
theorem O8 (x k:List Nat) (hx:Dg x) (hk:Dg k) (w:World) :
  Calls Tryz.prog 56 #[AQ x,AQ k] w fun e w'=>e=.returned (AQ (Mg x k))∧w.grownBy w' none:=by
 refine BV Tryz.func56 rfl Tryz.ntmps56 rfl fun a0 sv0=>?_
 have HG:=World.grownBy.refl w none
 replace sv0:Sv 10 [] [(0,AQ x),(1,AQ k)] a0:=sv0
 refine AOQ fun K1 k1=>?_
 refine AOP ?_
 refine Bi sv0 r6 (Bb x hx.1) fun a2 w2 Cp Dt g2 z2 AJ sv2=>?_
 refine Bi sv2 r6 (Bb k hk.1) fun a3 w3 Bn Fh g3 z3 AI sv3=>?_
 replace HG:=AA (AA HG g2) g3
 refine A9 (T:=23) (Z:=(bv AR)) sv3 rfl rfl rfl (fun a w=>by kernel_rfl) fun a4 w4 Ev Bl g4 z4 AL sv4=>?_
 have Bm:=Bq HG Bl
 replace AJ:=AC g4 (AC g3 AJ)
 replace AI:=AC g4 AI
 refine AD ?_
 refine k1 _ _ ?_
 refine AOQ fun K5 k5=>?_
 refine DP (sv4.st w4) (by kernel_rfl) 5 [(5,Sp.is (AQ AR)),(6,Sp.is (AQ x)),(7,Sp.is (AQ k)),(8,Sp.is (AQ ((msk k)))),(9,Sp.is (AQ ((Mg x k))))] rfl (by kernel_rfl) (by kernel_rfl) (by kernel_rfl) [] (by kernel_rfl)
  ⟨BG (vs:=[]) rfl rfl trivial trivial (fun _=>ZQ _) (fun _=>rfl),yl r6 (Bb x hx.1) AJ,yl r6 (Bb k hk.1) AI,Ag [.int .u64 283,AQ k,.slice none 0 0] Tryz.func66 (by kernel_rfl) rq4 ⟨rfl,(oy rfl rfl),rfl,AOW⟩ (A1 fun W g=>Ox (n:=283) (by decide) rfl hk W),Ag [AQ AR,AQ x,AQ ((msk k))] Tryz.func104 (by kernel_rfl) rq4 ⟨(oy rfl rfl),(oy rfl rfl),(oy rfl rfl),AOW⟩ (A1 fun W g=>AFt AR x (msk k) AU hx (Bp 283 k) W),AOW⟩ trivial
  [] (by kernel_rfl) trivial ⟨.inl rfl,.inl rfl,.inl rfl,.inl rfl,.inl rfl,AOW⟩ (by kernel_rfl) fun a6 w6 g6 st6 nd6=>?_
 obtain⟨hn6,hd6,e6_5,e6_6,e6_7,e6_8,e6_9,e6_4,e6_3,e6_2,e6_0,e6_1,-⟩:=st6
 have sv6:Sv 10 [] [(4,_),(3,_),(2,_),(0,_),(1,_),(9,_)] a6:=⟨hn6,hd6,e6_4,e6_3,e6_2,e6_0,e6_1,e6_9,AOW⟩
 refine Aq sv6 r7 (Bb ((Mg x k)) (AFs hx (Bp 283 k)).1) (AC g6 AL) (EM (AFs hx (Bp 283 k))) fun w7 g7 h7=>?_
 replace HG:=AE (AA (AA HG g4) g6) g7 Bm
 replace AL:=h7
 refine AD ?_
 refine k5 _ _ ?_
 refine AOT ?_
 repeat refine AM ?_
 refine Ap (fn:=Tryz.f56) sv6 (EE (p:=4) Tryz.results56 sv6 rfl rfl (Bb ((Mg x k)) (AFs hx (Bp 283 k)).1) AL) ?_
 exact⟨rfl,HG⟩
end Go.Proofs.YtbfjfnbcmojpiaaGreat
