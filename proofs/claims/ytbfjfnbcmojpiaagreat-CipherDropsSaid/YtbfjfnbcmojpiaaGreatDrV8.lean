import Derived.Test.YtbfjfnbcmojpiaaGreatDrSH
set_option linter.unusedSimpArgs false
set_option linter.unusedVariables false
set_option maxRecDepth 100000
set_option maxHeartbeats 4000000
namespace Go.Proofs.YtbfjfnbcmojpiaaGreat
open Go.RowKit Go.Shelf
theorem Wb (l:List Nd):(FT l).all Value.oneCell'=true:=T6 l
theorem Wc {w:World} {ao:Option Addr} {n cap j:Nat} {ks:List VK} {x:VK} (h:Sl w 33 (.slice ao n cap) n (ks.flatMap AZ)) (hj:j<ks.length) (hx:ks[j]=x):w.rangeAt (bO ao) (oO ao+j*33) (AZ x):=hx▸Cz h Ct hj (by decide)
theorem KO {w:World} {ao:Option Addr} {n cap j:Nat} {ks:List VK} {x:VK} (h:Sl w 33 (.slice ao n cap) n (ks.flatMap AZ)) (hj:j<ks.length) (hx:ks[j]=x):w.rangeAt (bO ao) (oO ao+j*33) (bv x.o):=
 Mq (o:=oO ao+j*33) (k:=0) (A:=[]) (B:=bv x.o) (C:=[x.s]) (Wc h hj hx) rfl
theorem Zc  (w:World) :
  Calls Tryz.prog 114 #[.slice none 0 0] w fun e w'=>e=.returned (.slice none 0 0)∧w.grownBy w' none:=by
 refine BM Tryz.func114 rfl Tryz.ntmps114 rfl fun a0 sv0=>?_
 have HG:=World.grownBy.refl w none
 replace sv0:Sv 8 [] [(0,.slice none 0 0)] a0:=sv0
 refine AIi fun K1 k1=>?_
 refine AIh ?_
 refine Aa (v:=.slice none 0 0) sv0 r6 fun a2 sv2=>?_
 refine AE ?_
 refine k1 _ _ ?_
 refine AIi fun K3 k3=>?_
 refine AIi fun K4 k4=>?_
 refine AIh ?_
 refine AL sv2 2 [(3,.slice none 0 0),(4,.bool true)]
  ⟨ym r5,Cm r6 (fun _=>Rs Tryz.underlying54 rfl),AIo⟩ fun a5 w5 g5 sv5=>?_
 refine AE ?_
 refine k4 _ _ ?_
 refine Ap sv5 rfl rfl ?_
 refine AIi fun K6 k6=>?_
 refine AIh ?_
 refine Aa (v:=.slice none 0 0) sv5 r6 fun a7 sv7=>?_
 refine AE ?_
 refine k6 _ _ ?_
 replace HG:=AA HG g5
 refine AIl ?_
 repeat refine AM ?_
 refine A8 (fn:=Tryz.f114) sv7 (A7 (p:=2) Tryz.results114 sv7 rfl rfl) ?_
 exact⟨rfl,HG⟩
theorem We (l:List Nd) (ad:Addr) (cap:Nat) (w:World) (h:RdT w (.slice ((some ad)) l.length cap) l) :
  Calls Tryz.prog 114 #[.slice ((some ad)) l.length cap] w fun e w'=>∃ao cap,e=.returned (.slice ao l.length cap)∧RdTg w' (.slice ao l.length cap) l∧(∀k,Lc (.slice ao l.length cap) k→w.heap.size≤k)∧w.grownBy w' none:=by
 refine BM Tryz.func114 rfl Tryz.ntmps114 rfl fun a0 sv0=>?_
 have HG:=World.grownBy.refl w none
 replace sv0:Sv 8 [] [(0,.slice ((some ad)) l.length cap)] a0:=sv0
 refine AIi fun K1 k1=>?_
 refine AIh ?_
 refine Aa (v:=.slice none 0 0) sv0 r6 fun a2 sv2=>?_
 refine AE ?_
 refine k1 _ _ ?_
 refine AIi fun K3 k3=>?_
 refine AIi fun K4 k4=>?_
 refine AIh ?_
 refine AL sv2 2 [(3,.slice ((some ad)) l.length cap),(4,.bool false)]
  ⟨ym r5,Cm r6 (fun _=>Rs Tryz.underlying54 rfl),AIo⟩ fun a5 w5 g5 sv5=>?_
 refine AE ?_
 refine k4 _ _ ?_
 refine Au sv5 rfl rfl ?_
 refine AIm ?_
 refine k3 _ _ ?_
 refine AIi fun K6 k6=>?_
 refine AIh ?_
 replace h:=h.kn g5
 replace HG:=AA HG g5
 refine FE (sv5.st w5) 3 [(5,Sp.lit0 w5.heap.size 132),(6,Sp.is (.slice ((some ad)) l.length cap)),(7,Sp.row w5.heap.size 132 34 l.length (FT l))] rfl (by kernel_rfl) (by kernel_rfl) (by kernel_rfl)
  ⟨Rv (t:=0) rfl trivial (Nat.le_refl _) (fun a w=>by kernel_rfl) (fun _ _ h=>h),ym r5,Rx (news:=FT l) AFF rfl rfl trivial rfl (fun _ _ h=>h) (oy rfl rfl) (fun _ g=>(h.kn g).1) (Wb l) h.2.2.2 (Nat.le_refl _) (fun _ _ h=>h),AIo⟩ fun a7 w7 g7 st7=>?_
 obtain⟨hn7,hd7,e7_5,e7_6,e7_7,e7_3,e7_4,e7_2,e7_0,-⟩:=st7
 obtain⟨ao8,cap8,e7_7q,ow8,fr8⟩:=e7_7
 have Wf:=JC HG fr8
 replace h:=h.kn g7
 replace HG:=AA HG g7
 have sv7:Sv 8 [] [(3,_),(4,_),(2,_),(0,_),(7,_)] a7:=⟨hn7,hd7,e7_3,e7_4,e7_2,e7_0,e7_7q,AIo⟩
 refine Aa (v:=.slice ao8 l.length cap8) sv7 r6 fun a9 sv9=>?_
 refine AE ?_
 refine k6 _ _ ?_
 refine AIl ?_
 repeat refine AM ?_
 refine A8 (fn:=Tryz.f114) sv9 (A7 (p:=2) Tryz.results114 sv9 rfl rfl) ?_
 exact⟨_,_,rfl,⟨⟨Sl.of_own ow8,h.2.1,fun k hk=>Own.lt ow8 k hk.1,h.2.2.2⟩,Tag.of ow8⟩,fun k hk=>Wf k hk.1,HG⟩
theorem Wg {l:List Nd} {s:Value} {w:World} (h:RdT w s l):Calls Tryz.prog 114 #[s] w fun e w'=>∃ao cap,e=.returned (.slice ao l.length cap)∧RdTg w' (.slice ao l.length cap) l∧(∀k,Lc (.slice ao l.length cap) k→w.heap.size≤k)∧w.grownBy w' none:=by
 obtain⟨ao,cap,rfl⟩:=h.shape
 cases ao with
 | some ad=>exact We l ad cap w h
 | none =>
  have h0:l.length=0∧cap=0:=by
   obtain⟨⟨_,ao',cap',e,h1,_,h3,_⟩,_⟩:=h
   simp only[Value.slice.injEq,true_and] at e
   obtain⟨rfl,rfl⟩:=e
   have:=h3 rfl
   omega
  obtain⟨h1,rfl⟩:=h0
  obtain rfl:l=[]:=List.eq_nil_of_length_eq_zero h1
  exact(Zc w).mono fun e w' ⟨h1,h2⟩=>⟨none,0,h1,⟨h.kn h2,fun k hk=>(RV k hk).elim⟩,fun k hk=>(RV k hk).elim,h2⟩
theorem ABV {w0:World} {l:List Nd} {s:Value} (h:RdT w0 s l):∀W,w0.grownBy W none→Calls Tryz.prog 114 #[s] W fun e W'=>∃v,e=.returned v∧W.grownBy W' none∧(Sp.cl w0.heap.size l).on W' v:=fun W g =>
 (Wg (h.kn g)).mono fun e W' ⟨ao,cap,h1,h2,h3,h4⟩=>⟨_,h1,h4,ao,cap,rfl,h2,fun k hk=>Nat.le_trans g.size (h3 k hk)⟩
theorem Ub (ks:List VK) (ao:Option Addr) (cap:Nat) (sa po:List Nat) (hsa:Dg sa) (hpo:Dg po) (w:World) (hr:RdK w (.slice ao ks.length cap) ks) (h64:ks.length≤64) :
   Calls Tryz.prog 72 #[Ao sa po (.slice ao ks.length cap)] w fun e w'=>∃A ms,e=.returned (Ao sa po (.slice (some ⟨A,0,none⟩) ks.length ks.length))∧ms.map VK.p=ks.map VK.p∧Own w' 58 33 (.slice (some ⟨A,0,none⟩) ks.length ks.length) ks.length (ms.flatMap AZ)∧KsT w' ms∧w.heap.size≤A∧(∀k,DF ms k→w.heap.size≤k∧k≠A)∧w.grownBy w' none:=by
 refine BM Tryz.func72 rfl Tryz.ntmps72 rfl fun a0 sv0=>?_
 have HG:=World.grownBy.refl w none
 replace sv0:Sv 33 [] [(0,Ao sa po (.slice ao ks.length cap))] a0:=sv0
 refine AIi fun K1 k1=>?_
 refine AIh ?_
 refine BT sv0 r6 (BX hsa hpo (.slice ao ks.length cap) rfl) fun a2 w2 B3 FJ g2 z2 AY sv2=>?_
 have ADa:=Bq HG FJ
 replace HG:=AA HG g2
 refine As (T:=36) (Z:=([bv AS,bv AS,[.slice none 0 0]].flatten)) sv2 rfl rfl rfl (fun a w=>by kernel_rfl) fun a3 w3 Mx Hq g3 z3 B8 sv3=>?_
 have SC:=Ar AY Hq
 have Ir:=Bq HG Hq
 replace AY:=AC g3 AY
 replace hr:=(hr.kn g2).kn g3
 replace HG:=AA HG g3
 refine AE ?_
 refine k1 _ _ ?_
 refine AIi fun K4 k4=>?_
 refine AIh ?_
 refine FE (sv3.st w3) 4 [(6,Sp.is (pk B3 64)),(7,Sp.is (.slice ao ks.length cap)),(8,Sp.is (.int .i64 ((ks.length:Nat)))),(9,Sp.made w3.heap.size 58 33 ks.length ((List.replicate ks.length Oj).flatMap AZ))] rfl (by kernel_rfl) (by kernel_rfl) (by kernel_rfl)
   ⟨yf r6 (fun _=>by kernel_rfl),yp (i:=2) r6 (Dn (.slice ao ks.length cap) rfl) AY rfl (by simp[AI,AQ,hsa.1,hpo.1]),Bk (Tryz.underlying34) rfl rfl trivial (oy rfl rfl) (fun _=>rfl),ADN (m:=ks.length) (xs:=(List.replicate ks.length Oj).flatMap AZ) Oq rfl rfl trivial (Nat.le_refl _) (oy rfl rfl) (by omega) (AGh _).symm (fun _ _ h=>h),AIo⟩ fun a5 w5 g5 st5=>?_
 obtain⟨hn5,hd5,e5_6,e5_7,e5_8,e5_9,e5_2,e5_1,e5_0,-⟩:=st5
 obtain⟨A,e5_9q,ow,geA⟩:=e5_9
 have frA:∀k,BO (.slice ((some ⟨A,0,none⟩)) ks.length ks.length) k→w3.heap.size≤k:=fun k hk=>(Option.some.inj hk)▸geA
 have Gk:=CF frA AY
 have Gl:=CF frA B8
 have ap_hr_ow:=AEe (hr.lt) frA
 have lo_ow:=JC HG frA
 replace AY:=AC g5 AY
 have sv5:Sv 33 [] [(2,_),(1,_),(0,_),(9,_)] a5:=⟨hn5,hd5,e5_2,e5_1,e5_0,e5_9q,AIo⟩
 refine Aa (v:=.slice ((some ⟨A,0,none⟩)) ks.length ks.length) sv5 r6 fun a6 sv6=>?_
 refine AE ?_
 refine k4 _ _ ?_
 refine AIi fun K7 k7=>?_
 refine AIi fun K8 k8=>?_
 refine AIh ?_
 refine AL sv6 4 [(10,pk B3 64),(11,.slice ao ks.length cap),(12,.int .i64 ((ks.length:Nat))),(13,.int .i64 0)]
   ⟨yf r6 (fun _=>by kernel_rfl),yp (i:=2) r6 (Dn (.slice ao ks.length cap) rfl) AY rfl (by simp[AI,AQ,hsa.1,hpo.1]),Bk (Tryz.underlying34) rfl rfl trivial (oy rfl rfl) (fun _=>rfl),EI (.inl rfl) rfl trivial (fun _=>rfl),AIo⟩ fun a9 w9 g9 sv9=>?_
 refine AE ?_
 refine k8 _ _ ?_
 refine BB fun Q10 x10 y10 r10 o10=>?_
 replace AY:=AC g9 AY
 replace B8:=AC g9 (AC g5 B8)
 replace hr:=(hr.kn g5).kn g9
 replace ow:=ow.kn g9
 replace HG:=AA (AA HG g5) g9
 have kr:=KsT.rep w9 ks.length
 have Iy:∀k,DF (List.replicate ks.length Oj) k→k≠B3:=fun k hk=>(Jd _ _ hk).elim
 have Iz:∀k,DF (List.replicate ks.length Oj) k→k≠Mx:=fun k hk=>(Jd _ _ hk).elim
 have ap_kr_ow:∀k,DF (List.replicate ks.length Oj) k→¬BO (.slice ((some ⟨A,0,none⟩)) ks.length ks.length) k:=fun k hk=>(Jd _ _ hk).elim
 refine wp_loop (fun a w'=>∃(i:Nat) (ms:List VK),(i≤ks.length)∧(ms.length=ks.length)∧(∀j,j<i→(ms.map VK.p)[j]?=(ks.map VK.p)[j]?)∧(∀k,DF ms k→w.heap.size≤k)∧Sv 33 [] [(13,.int .i64 ((i:Int))),(10,pk B3 64),(11,.slice ao ks.length cap),(12,.int .i64 ((ks.length:Nat))),(3,.slice ((some ⟨A,0,none⟩)) ks.length ks.length),(2,pt Mx),(1,pt B3),(0,Ao sa po (.slice ao ks.length cap)),(9,.slice ((some ⟨A,0,none⟩)) ks.length ks.length)] a∧w.grownBy w' none∧w'.heap[B3]?=some (.cells ([bv sa,bv po,[.slice ao ks.length cap]].flatten).toArray 36 (0,0))∧w'.heap[Mx]?=some (.cells (([bv AS,bv AS,[.slice none 0 0]].flatten)).toArray 36 (0,0))∧RdK w' (.slice ao ks.length cap) ks∧Own w' 58 33 (.slice ((some ⟨A,0,none⟩)) ks.length ks.length) ks.length (ms.flatMap AZ)∧KsT w' ms∧(∀k,BO (.slice ((some ⟨A,0,none⟩)) ks.length ks.length) k→k≠B3)∧(∀k,BO (.slice ((some ⟨A,0,none⟩)) ks.length ks.length) k→k≠Mx)∧(∀k,Je (.slice ao ks.length cap) ks k→¬BO (.slice ((some ⟨A,0,none⟩)) ks.length ks.length) k)∧(∀k,DF ms k→¬BO (.slice ((some ⟨A,0,none⟩)) ks.length ks.length) k)∧(∀k,BO (.slice ((some ⟨A,0,none⟩)) ks.length ks.length) k→w.heap.size≤k)∧(∀k,DF ms k→k≠B3)∧(∀k,DF ms k→k≠Mx)) (fun a _=>(ks.length-intOf (a.tmps.getD 13 undef)).toNat) ⟨0,List.replicate ks.length Oj,Nat.zero_le _,by simp,fun j hj=>by omega,fun k hk=>(Jd _ _ hk).elim,⟨sv9.1,sv9.2.1,sv9.2.2.2.2.2.1,sv9.2.2.1,sv9.2.2.2.1,sv9.2.2.2.2.1,sv9.2.2.2.2.2.2.1,sv9.2.2.2.2.2.2.2.1,(AK sv9).1,(AK sv9).2.1,(AK sv9).2.2.1,AIo⟩,HG,AY,B8,hr,ow,kr,Gk,Gl,ap_hr_ow,ap_kr_ow,lo_ow,Iy,Iz⟩ fun a11 w11 hI11=>?_
 clear AY
 clear B8
 clear hr
 clear ow
 clear kr
 clear HG
 obtain⟨i,ms,hin,hms,hp,hfr,CH,HG,AY,B8,hr,ow,kr,Gk,Gl,ap_hr_ow,ap_kr_ow,lo_ow,Iy,Iz⟩:=hI11
 refine AIi fun K12 k12=>?_
 by_cases hi:i<ks.length
 · obtain⟨x,hx_x⟩:∃x,ks[i]'hi=x:=⟨_,rfl⟩
   have him:i<ms.length:=by omega
   obtain⟨z,hx_z⟩:∃x,ms[i]'him=x:=⟨_,rfl⟩
   refine AIh ?_
   refine AL CH 1 [(14,.bool true)]
    ⟨Hl r7 (fun _=>Ba (decide_eq_true (by omega))),AIo⟩ fun a13 w13 g13 DI=>?_
   refine AE ?_
   refine k12 _ _ ?_
   refine AIi fun K14 k14=>?_
   refine Ap DI rfl rfl ?_
   refine AIm ?_
   refine k14 _ _ ?_
   refine AIi fun K15 k15=>?_
   refine BB fun Q16 x16 y16 r16 o16=>?_
   refine AIi fun K17 k17=>?_
   refine AIh ?_
   replace hr:=hr.kn g13
   refine AL DI 3 [(15,.int .i64 ((i:Int))),(16,pk ((bO ao)) (oO ao+i*33)),(17,F4 x)]
    ⟨ym r5,BD rq8 (fun w=>CM Tryz.underlying34 (by kernel_rfl) (hr.1.1) (by omega) (rfl) w),Bv r6 (fun _ g=>Ae (Ry x) (RdK.keyX (hr.kn g) rfl hi hx_x)),AIo⟩ fun a18 w18 g18 CS=>?_
   replace AY:=AC g18 (AC g13 AY)
   replace B8:=AC g18 (AC g13 B8)
   replace hr:=hr.kn g18
   replace ow:=(ow.kn g13).kn g18
   replace kr:=(kr.kn g13).kn g18
   replace HG:=AA (AA HG g13) g18
   refine As (T:=58) (Z:=([bv AS,[.slice none 0 0]].flatten)) CS rfl rfl rfl (fun a w=>by kernel_rfl) fun a19 w19 NP EM g19 z19 CL Dj=>?_
   have QA:=Ar AY EM
   have QB:=Ar B8 EM
   have L5:=Bq HG EM
   have Uc:=Ax (hr.lt) EM
   have Ud:=Ax (Own.ltS ow) EM
   have NQ:=Ax (kr.lt) EM
   refine Aa (v:=.int .i64 ((i:Int))) Dj r6 fun a20 EL=>?_
   refine An EL r7 (Ry x) CL (by first|rfl|simp[AZ,AI,AQ,x.ho.1]) fun w21 g21 h21=>?_
   replace AY:=Ab g21 (AC g19 AY) (Ne.symm QA)
   replace B8:=Ab g21 (AC g19 B8) (Ne.symm QB)
   replace hr:=(hr.kn g19).offR g21 (AU Uc)
   replace ow:=(ow.kn g19).offR g21 (AU Ud)
   replace HG:=AD (AA HG g19) g21 L5
   replace CL:=h21
   refine AE ?_
   refine k17 _ _ ?_
   refine DB (EL.st w21) (by kernel_rfl) 11 [(18,Sp.is (.slice ((some ⟨A,0,none⟩)) ks.length ks.length)),(19,Sp.is (.int .i64 ((i:Int)))),(20,Sp.is (pt NP)),(21,Sp.is (AO x.o)),(22,Sp.is (pk NP 32)),(23,Sp.is (pk NP 32)),(24,Sp.is (VK.s x)),(25,Sp.cl w21.heap.size x.l),(26,Sp.ct w21.heap.size x.l),(27,Sp.ck w21.heap.size x.o x.l),(28,Sp.is (pk ((bO ((some ⟨A,0,none⟩)))) (oO ((some ⟨A,0,none⟩))+i*33)))] rfl (by kernel_rfl) (by kernel_rfl) (by kernel_rfl) [] (by kernel_rfl)
    ⟨ym r5,ym r5,yf r6 (fun _=>by kernel_rfl),yp (i:=0) r6 (Bn x.o x.ho.1) CL rfl rfl,yf r6 (fun _=>by kernel_rfl),yf r6 (fun _=>by kernel_rfl),yp (i:=1) r6 (AHj (VK.s x) rfl) CL rfl (by simp[AI,AQ,x.ho.1]),Ad [VK.s x] Tryz.func114 (by kernel_rfl) rq4 ⟨(oy rfl rfl),AIo⟩ (ABV (hr.kt hi hx_x)),KJ rfl rfl trivial rfl (fun W _ av h=>match av,h with|[u],⟨h1,_⟩=>AGi h1),KJ rfl rfl trivial rfl (fun W _ av h=>match av,h with|[u,t],⟨h1,h2,_⟩=>ABC x.ho h1 h2),BD rq8 (fun w=>CM Tryz.underlying34 (by kernel_rfl) (Sl.of_own ow) (by omega) (rfl) w),AIo⟩ trivial
    [] (by kernel_rfl) trivial ⟨.inl rfl,.inl rfl,.inl rfl,.inl rfl,.inl rfl,.inl rfl,.inl rfl,.inl rfl,.inl rfl,.inl rfl,.inl rfl,AIo⟩ (by kernel_rfl) fun a22 w22 g22 st22 nd22=>?_
   obtain⟨hn22,hd22,e22_18,e22_19,e22_20,e22_21,e22_22,e22_23,e22_24,e22_25,e22_26,e22_27,e22_28,e22_4,e22_5,e22_15,e22_16,e22_17,e22_14,e22_13,e22_10,e22_11,e22_12,e22_3,e22_2,e22_1,e22_0,e22_9,-⟩:=st22
   obtain⟨y,e22_27q,hyo,hyl,rt,frB⟩:=e22_27
   have HG0:=HG
   have Wh:=CF frB AY
   have Wi:=CF frB B8
   have Ue:=CF frB CL
   have ap_rt_ow:=AHn (Own.ltS ow) frB
   replace ow:=ow.kn g22
   have CX:Sv 33 [] [(4,_),(5,_),(15,_),(16,_),(17,_),(14,_),(13,_),(10,_),(11,_),(12,_),(3,_),(2,_),(1,_),(0,_),(9,_),(27,_),(28,_)] a22:=⟨hn22,hd22,e22_4,e22_5,e22_15,e22_16,e22_17,e22_14,e22_13,e22_10,e22_11,e22_12,e22_3,e22_2,e22_1,e22_0,e22_9,e22_27q,e22_28,AIo⟩
   refine Ik (c:=AZ) (el:=y) CX rfl rfl rfl rfl rfl rfl rfl (Ry y) ow Ct (by decide) (by first|omega|(simp only[List.length_set];omega)) rfl fun w23 g23 h23=>?_
   replace AY:=AF g23 (AC g22 AY) (fun e=>Gk _ (C3 (j:=i) ow (by omega) rfl) (Option.some.inj e).symm)
   replace B8:=AF g23 (AC g22 B8) (fun e=>Gl _ (C3 (j:=i) ow (by omega) rfl) (Option.some.inj e).symm)
   replace hr:=(hr.kn g22).offR g23 (fun k hk e=>ap_hr_ow k hk (C3 (j:=i) ow (by omega) e))
   replace kr:=(((kr.kn g19).offR g21 (AU NQ)).kn g22).offR g23 (fun k hk e=>ap_kr_ow k hk (C3 (j:=i) ow (by omega) e))
   replace rt:=rt.offR g23 (fun k hk e=>ap_rt_ow k hk (C3 (j:=i) ow (by omega) e))
   replace HG:=CJ (AA HG g22) g23 fun k e=>lo_ow k (C3 (j:=i) ow (by omega) e)
   refine AE ?_
   have kr2:=KsT.set kr (x:=y) rt i
   have Uf:∀k,DF (ms.set i y) k→k≠B3:=fun k hk=>(IU hk).elim (Iy k) (Wh k)
   have Ug:∀k,DF (ms.set i y) k→k≠Mx:=fun k hk=>(IU hk).elim (Iz k) (Wi k)
   have ADb:∀k,DF (ms.set i y) k→k≠NP:=fun k hk=>(IU hk).elim (NQ k) (Ue k)
   have ap_kr2_ow:∀k,DF (ms.set i y) k→¬BO (.slice ((some ⟨A,0,none⟩)) ks.length ks.length) k:=fun k hk=>(IU hk).elim (ap_kr_ow k) (ap_rt_ow k)
   refine y16 _ _ ?_
   refine k15 _ _ ?_
   refine AIh ?_
   refine AL CX 1 [(29,.int .i64 (((i+1:Nat):Int)))]
    ⟨Cm r6 (fun _=>C4 (by rw[A1 (by omega) (by omega)];omega)),AIo⟩ fun a24 w24 g24 DZ=>?_
   refine AL (DZ.dl [13]) 1 [(13,.int .i64 (((i+1:Nat):Int)))]
    ⟨ym r5,AIo⟩ fun a25 w25 g25 Cx=>?_
   have JM:=AA g24 g25
   refine AE ?_
   replace AY:=AC JM AY
   replace B8:=AC JM B8
   replace hr:=hr.kn JM
   replace ow:=h23.kn JM
   replace kr2:=kr2.kn JM
   replace HG:=AA HG JM
   exact⟨⟨i+1,ms.set i y,by omega,by rw[List.length_set];exact hms,ADO hms hi hx_x hyo hyl hp,fun k hk=>(IU hk).elim (hfr k) fun h=>Nat.le_trans HG0.size (frB k h),⟨Cx.1,Cx.2.1,Cx.2.2.1,(AK Cx).2.2.1,(AK Cx).2.2.2.1,(AK Cx).2.2.2.2.1,(AK Cx).2.2.2.2.2.1,(AK Cx).2.2.2.2.2.2.1,(AK Cx).2.2.2.2.2.2.2.1,(AK (AK Cx)).1,(AK (AK Cx)).2.1,AIo⟩,HG,AY,B8,hr,ow,kr2,Gk,Gl,ap_hr_ow,ap_kr2_ow,lo_ow,Uf,Ug⟩,by rw[show _=_ from Cx.2.2.1,show _=_ from CH.2.2.1];simp[intOf];omega⟩
 · have hall:=AFX hms hi hp
   refine AIh ?_
   refine AL CH 1 [(14,.bool false)]
    ⟨Hl r7 (fun _=>Ba (decide_eq_false (by omega))),AIo⟩ fun a26 w26 g26 CW=>?_
   refine AE ?_
   refine k12 _ _ ?_
   refine AIi fun K27 k27=>?_
   refine Au CW rfl rfl ?_
   refine wp_exit ?_
   repeat refine CD ?_
   refine x10 _ _ ?_
   refine k7 _ _ ?_
   refine AIi fun K28 k28=>?_
   refine AIh ?_
   refine AL CW 2 [(30,.slice ((some ⟨A,0,none⟩)) ks.length ks.length),(31,pk B3 64)]
    ⟨ym r5,yf r6 (fun _=>by kernel_rfl),AIo⟩ fun a29 w29 g29 CI=>?_
   have IV:=AA g26 g29
   refine Jc (L:=[bv sa,bv po,[.slice ao ks.length cap]]) (i:=2) CI r7 (Dn (.slice ((some ⟨A,0,none⟩)) ks.length ks.length) rfl) (AC IV AY) rfl (by simp[AI,AQ,hsa.1,hpo.1]) rfl fun w30 g30 h30=>?_
   replace B8:=Ak IV g30 B8 SC
   replace AY:=h30
   refine AE ?_
   refine k28 _ _ ?_
   refine AIi fun K31 k31=>?_
   refine AIh ?_
   refine AL CI 1 [(32,Ao sa po (.slice ((some ⟨A,0,none⟩)) ks.length ks.length))]
    ⟨yl r6 (BX hsa hpo (.slice ((some ⟨A,0,none⟩)) ks.length ks.length) rfl) AY,AIo⟩ fun a32 w32 g32 Bc=>?_
   refine An Bc r7 (BX hsa hpo (.slice ((some ⟨A,0,none⟩)) ks.length ks.length) rfl) (AC g32 B8) (by first|rfl|simp[AZ,AI,AQ,hsa.1,hpo.1]) fun w33 g33 h33=>?_
   replace ow:=(((ow.kn IV).offR g30 (AU Gk)).kn g32).offR g33 (AU Gl)
   replace kr:=(((kr.kn IV).offR g30 (AU Iy)).kn g32).offR g33 (AU Iz)
   replace HG:=AD (AA (AD (AA HG IV) g30 ADa) g32) g33 Ir
   replace B8:=h33
   refine AE ?_
   refine k31 _ _ ?_
   refine AIl ?_
   repeat refine AM ?_
   refine A8 (fn:=Tryz.f72) Bc (EK (p:=2) Tryz.results72 Bc rfl rfl (BX hsa hpo (.slice ((some ⟨A,0,none⟩)) ks.length ks.length) rfl) B8) ?_
   exact⟨A,ms,rfl,hall,ow,kr,lo_ow _ rfl,fun k hk=>⟨hfr k hk,fun e=>ap_kr_ow k hk (e▸rfl)⟩,HG⟩
def TagV (w:World) (k:Nat):Prop:=TagB w k∨∃c fr,w.heap[k]?=some (.cells c 58 fr)
theorem TagV.keep {w w':World} {k:Nat} (h:TagV w k) {row:Option Nat} (g:w.grownBy w' row) (hb:row≠some k):TagV w' k:=h.imp (·.keep g hb) fun⟨c,fr,h1⟩=>⟨c,fr,AF g h1 fun e=>hb e.symm⟩
def VRes (w w':World) (r:VV×Int) (fp:Nat→Prop) (e:Ending):Prop:=∃ao cap ks,e=.returned (.tuple #[Ao r.1.2.1 r.1.2.2 (.slice ao ks.length cap),.int .i64 r.2])∧ks.map VK.p=r.1.1∧RdK w' (.slice ao ks.length cap) ks∧(∀k,Je (.slice ao ks.length cap) ks k→fp k∨TagV w' k)∧w.grownBy w' none
theorem VRes.zero {w w':World} {r:VV×Int} {fp:Nat→Prop} {c:Int} (hr:r=(Uh,c)) (h:w.grownBy w' none):VRes w w' r fp (.returned (.tuple #[Ao AS AS (.slice none 0 0),.int .i64 c])):=by
 subst hr
 exact⟨none,0,[],rfl,rfl,RdK.nil w',fun k hk=>(Lw k hk).elim,h⟩
theorem VRes.mk2 {w w':World} {r:VV×Int} {fp:Nat→Prop} {P:List VP} {sa po:List Nat} {c:Int} {ao:Option Addr} {n cap:Nat} {ks:List VK} (hr:r=((P,sa,po),c)) (hp:ks.map VK.p=P) (ho:Own w' 58 33 (.slice ao n cap) n (ks.flatMap AZ)) (hk:KsR w' ks) (h2:∀k,DF ks k→fp k∨TagB w' k)
  (h:w.grownBy w' none):VRes w w' r fp (.returned (.tuple #[Ao sa po (.slice ao n cap),.int .i64 c])):=by
 obtain rfl:=Own.rdk ho
 subst hr
 exact⟨ao,cap,ks,rfl,hp,⟨ho.sb,hk⟩,fun k hk=>hk.elim (fun h=>.inr (.inr (Own.block ho h))) (fun h=>(h2 k h).imp id .inl),h⟩
theorem VRes.mk {w w':World} {r:VV×Int} {fp:Nat→Prop} {P:List VP} {sa po:List Nat} {c:Int} {ao:Option Addr} {n cap:Nat} {ks:List VK} (hr:r=((P,sa,po),c)) (hp:ks.map VK.p=P) (ho:Own w' 58 33 (.slice ao n cap) n (ks.flatMap AZ)) (hk:KsT w' ks)
 (h:w.grownBy w' none):VRes w w' r fp (.returned (.tuple #[Ao sa po (.slice ao n cap),.int .i64 c])):=VRes.mk2 hr hp ho hk.1 (fun k hk'=>.inr (hk.2 k hk')) h
theorem VRes.same {w w':World} {r:VV×Int} {fp:Nat→Prop} {P:List VP} {sa po:List Nat} {c:Int} {ao:Option Addr} {cap:Nat} {ks:List VK} (hr:r=((P,sa,po),c)) (hp:ks.map VK.p=P) (ho:RdK w' (.slice ao ks.length cap) ks)
  (h1:∀k,Je (.slice ao ks.length cap) ks k→fp k) (h:w.grownBy w' none):VRes w w' r fp (.returned (.tuple #[Ao sa po (.slice ao ks.length cap),.int .i64 c])):=by
 subst hr
 exact⟨ao,cap,ks,rfl,hp,ho,fun k hk=>.inl (h1 k hk),h⟩
def Sp.cln (B:Nat) (sa po:List Nat) (n:Nat) (P:List VP):Sp:=⟨fun w v=>∃(A:Nat) (ms:List VK),v=Ao sa po (.slice (some ⟨A,0,none⟩) n n)∧ms.map VK.p=P∧Own w 58 33 (.slice (some ⟨A,0,none⟩) n n) n (ms.flatMap AZ)∧KsT w ms∧B≤A∧∀k,DF ms k→B≤k∧k≠A,
 fun _ _ _ hg ⟨A,ms,h1,h2,h3,h4,h5,h6⟩=>⟨A,ms,h1,h2,h3.kn hg,h4.kn hg,h5,h6⟩⟩
theorem RM {w0:World} {ks:List VK} {ao:Option Addr} {cap:Nat} {sa po:List Nat} (hsa:Dg sa) (hpo:Dg po) (hr:RdK w0 (.slice ao ks.length cap) ks) (h64:ks.length≤64):∀W,w0.grownBy W none→Calls Tryz.prog 72 #[Ao sa po (.slice ao ks.length cap)] W fun e W'=>∃v,e=.returned v∧W.grownBy W' none∧(Sp.cln w0.heap.size sa po ks.length (ks.map VK.p)).on W' v:=fun W g =>
 (Ub ks ao cap sa po hsa hpo W (hr.kn g) h64).mono fun e W' ⟨A,ms,h1,h2,h3,h4,h5,h6,h7⟩=>⟨_,h1,h7,A,ms,rfl,h2,h3,h4,Nat.le_trans g.size h5,fun k hk=>⟨Nat.le_trans g.size (h6 k hk).1,(h6 k hk).2⟩⟩
theorem KsT.ins {w:World} {ms:List VK} (h:KsT w ms) {x:VK} (hx:RdTg w x.s x.l) (i:Nat):KsT w (ms.take i++x::ms.drop i):=by
 have hh:∀k,k∈ms.take i++x::ms.drop i→k∈ms∨k=x:=fun k hk=>by
  rcases List.mem_append.1 hk with hk|hk
  · exact .inl (List.mem_of_mem_take hk)
  · rcases List.mem_cons.1 hk with rfl|hk
    · exact .inr rfl
    · exact .inl (List.mem_of_mem_drop hk)
 exact⟨fun k hk=>(hh k hk).elim (h.1 k) fun e=>e▸hx.1,fun b ⟨k,hk,hb⟩=>(hh k hk).elim (fun h1=>h.2 b ⟨k,h1,hb⟩) fun e=>hx.2 b (e▸hb)⟩
def Sp.insr (B n:Nat) (ks:List VK):Sp:=⟨fun w v=>∃ao cap,v=.slice ao n cap∧Own w 58 33 (.slice ao n cap) n (ks.flatMap AZ)∧∀k,BO (.slice ao n cap) k→B≤k,fun _ _ _ hg ⟨ao,cap,h1,h2,h3⟩=>⟨ao,cap,h1,h2.kn hg,h3⟩⟩
theorem AFf {w0:World} {ms:List VK} {x:VK} {i A V n:Nat} (hn:n=ms.length) (hown:Own w0 58 33 (.slice (some ⟨A,0,none⟩) n n) n (ms.flatMap AZ)) (hv:w0.heap[V]?=some (.cells (AZ x).toArray 58 (0,0))) (hi:i≤n) (h64:n≤64) :
  ∀W,w0.grownBy W none→Calls Tryz.prog 83 #[.slice (some ⟨A,0,none⟩) n n,.int .i64 (i:Int),.slice (some ⟨V,0,none⟩) 1 1] W fun e W'=>∃v,e=.returned v∧W.grownBy W' none∧(Sp.insr w0.heap.size (n+1) (ms.take i++x::ms.drop i)).on W' v:=fun W g=>by
 subst hn
 exact(UZ ms x i A V W (hown.kn g) (AF g hv (by simp)) hi (by omega)).mono fun e W' ⟨v,h1,h2,h3,h4⟩=>by
  obtain⟨ao,cap,rfl,_⟩:=(Sl.of_own h2).shape
  exact⟨_,h1,h3,ao,cap,rfl,h2,fun k hk=>Nat.le_trans g.size (h4 k hk)⟩
theorem ADc {ms:List VK} {P:List VP} {o:List Nat} {T:List Nd} {x:VK} {i:Nat} (h:ms.map VK.p=P) (hi:pos P o=i) (ho:x.o=o) (hl:x.l=T):(ms.take i++x::ms.drop i).map VK.p=LG P o T:=by
 unfold LG
 rw[hi,List.map_append,List.map_cons,List.map_take,List.map_drop,h]
 simp[VK.p,ho,hl]
theorem Ui {w:World} {ks ms:List VK} {A n:Nat} {sa po o:List Nat} (hsa:Dg sa) (hpo:Dg po) (ho:Dg o) (hm:ms.map VK.p=ks.map VK.p) (ow:Own w 58 33 (.slice (some ⟨A,0,none⟩) n n) n (ms.flatMap AZ)) (kr:KsR w ms) (hv:CE (ks.map VK.p)=true) {b:Bool} (hb:Hd (ks.map VK.p) o=b) {i:Nat} (hi:pos (ks.map VK.p) o=i) :
  Calls Tryz.prog 71 #[Ao sa po (.slice (some ⟨A,0,none⟩) n n),AO o] w fun e w'=>e=.returned (.tuple #[.int .i64 (i:Int),.bool b])∧w.grownBy w' none:=by
 obtain rfl:=Own.rdk ow
 rw[←hm] at hv hb hi
 exact Ou hsa hpo ho ⟨ow.sb,kr⟩ hv hb hi
theorem ABW (ks:List VK) (ao:Option Addr) (cap:Nat) (sa po:List Nat) (hsa:Dg sa) (hpo:Dg po) (o:List Nat) (ho:Dg o) (T:List Nd) (hT:tree (kd 275 po) []=T) (w:World) (hr:RdK w (.slice ao ks.length cap) ks) :
   Calls Tryz.prog 36 #[Ao sa po (.slice ao ks.length cap),AO o] w fun e w'=>VRes w w' (KZ (ks.map VK.p,sa,po) o T (kd 276 po)) (fun _=>False) e:=by
 have hTl:0<T.length:=by rw[←hT,JW];exact Nat.zero_lt_one
 refine DX Tryz.func36 rfl Tryz.ntmps36 rfl fun a0 sv0=>?_
 have HG:=World.grownBy.refl w none
 replace sv0:Sv 47 [] [(0,Ao sa po (.slice ao ks.length cap)),(1,AO o)] a0:=sv0
 refine AIi fun K1 k1=>?_
 refine AIh ?_
 refine BT sv0 r6 (BX hsa hpo (.slice ao ks.length cap) rfl) fun a2 w2 CC Cq g2 z2 AG sv2=>?_
 have ED:=Bq HG Cq
 refine BT sv2 r6 (Bn o ho.1) fun a3 w3 Bo EC g3 z3 AJ sv3=>?_
 have FK:=Ar AG EC
 replace AG:=AC g3 AG
 replace hr:=(hr.kn g2).kn g3
 replace HG:=AA (AA HG g2) g3
 refine As (T:=36) (Z:=([bv AS,bv AS,[.slice none 0 0]].flatten)) sv3 rfl rfl rfl (fun a w=>by kernel_rfl) fun a4 w4 Eh Bi g4 z4 AN sv4=>?_
 have Aw:=Ar AG Bi
 have A9:=Ar AJ Bi
 have Br:=Bq HG Bi
 have Bb:=Ax (hr.lt) Bi
 replace AG:=AC g4 AG
 replace AJ:=AC g4 AJ
 replace hr:=hr.kn g4
 replace HG:=AA HG g4
 refine As (T:=38) (Z:=[.int .i64 0]) sv4 rfl rfl rfl (fun a w=>by kernel_rfl) fun a5 w5 Nj Cr g5 z5 Ag sv5=>?_
 have BZ:=Ar AG Cr
 have B7:=Ar AJ Cr
 have Am:=Ar AN Cr
 have DJ:=Bq HG Cr
 have C7:=Ax (hr.lt) Cr
 replace AG:=AC g5 AG
 replace AJ:=AC g5 AJ
 replace AN:=AC g5 AN
 replace hr:=hr.kn g5
 replace HG:=AA HG g5
 refine AE ?_
 refine k1 _ _ ?_
 refine AIi fun K6 k6=>?_
 refine AIh ?_
 refine Es sv5 rfl rfl rfl rfl rfl rfl fun a7 sv7=>?_
 refine EJ sv7 rfl (dd:={ target:=.fn (.func 81) #[pt Eh,pt Nj],args:=#[] }) rfl (by have e1:=sv7.ev (x:=.tmp 9) rfl rfl;simp[execOp,resolve,Deferred.ofValue,e1];try rfl) fun a8 sv8=>?_
 refine AE ?_
 refine k6 _ _ ?_
 refine AIi fun K9 k9=>?_
 refine AIi fun K10 k10=>?_
 cases hv:CE (ks.map VK.p)
 · refine AIh ?_
   refine AL sv8 3 [(10,Ao sa po (.slice ao ks.length cap)),(11,.bool false),(12,.bool true)]
     ⟨yl r6 (BX hsa hpo (.slice ao ks.length cap) rfl) AG,Ad [Ao sa po (.slice ao ks.length cap)] Tryz.func51 (by kernel_rfl) rq4 ⟨(oy rfl rfl),AIo⟩ (Aq fun W g=>Gj hsa hpo (hr.kn g) hv),Cn r6 (fun _=>BV),AIo⟩ fun a11 w11 g11 CH=>?_
   refine AE ?_
   refine k10 _ _ ?_
   refine Ap CH rfl rfl ?_
   refine AIi fun K12 k12=>?_
   refine AIh ?_
   replace AG:=AC g11 AG
   replace AJ:=AC g11 AJ
   replace AN:=AC g11 AN
   replace Ag:=AC g11 Ag
   refine AL CH 1 [(13,Ao AS AS (.slice none 0 0))]
     ⟨BI (vs:=[]) rfl rfl trivial trivial (fun _=>bV0 _) (fun _=>rfl),AIo⟩ fun a13 w13 g13 DI=>?_
   refine An DI r7 (BX AR AR (.slice none 0 0) rfl) (AC g13 AN) (by first|rfl|simp[AZ,AI,AQ,AR.1,AR.1]) fun w14 g14 h14=>?_
   replace Ag:=Ak g13 g14 Ag Am
   refine An DI r7 (Ed 1) Ag rfl fun w15 g15 h15=>?_
   replace AG:=Ab g15 (Ak g13 g14 AG (Ne.symm Aw)) (Ne.symm BZ)
   replace AJ:=Ab g15 (Ak g13 g14 AJ (Ne.symm A9)) (Ne.symm B7)
   replace AN:=Ab g15 h14 (Ne.symm Am)
   replace hr:=(((hr.kn g11).kn g13).offR g14 (AU Bb)).offR g15 (AU C7)
   replace HG:=AD (AD (AA (AA HG g11) g13) g14 Br) g15 DJ
   replace Ag:=h15
   refine AE ?_
   refine k12 _ _ ?_
   refine AIl ?_
   repeat refine AM ?_
   refine BK (fn:=Tryz.f36) DI (BQ (p:=4) (q:=5) Tryz.results36 DI rfl rfl rfl rfl (BX AR AR (.slice none 0 0) rfl) (Ed 1) AN Ag) (Bl Tryz.func81 (by kernel_rfl) rfl _ _) (FI _ _ _) ?_
   exact VRes.zero (by unfold KZ;rw[if_neg (by rw[hv];simp)]) HG
 · obtain⟨i,hi⟩:∃i,pos (ks.map VK.p) o=i:=⟨_,rfl⟩
   have h64:ks.length≤64:=by have:=(Dz.1 hv).1;simpa using this
   have hin:i≤ks.length:=by rw[←hi];simpa using Ob (ks.map VK.p) o
   refine AIh ?_
   refine AL sv8 3 [(10,Ao sa po (.slice ao ks.length cap)),(11,.bool true),(12,.bool false)]
     ⟨yl r6 (BX hsa hpo (.slice ao ks.length cap) rfl) AG,Ad [Ao sa po (.slice ao ks.length cap)] Tryz.func51 (by kernel_rfl) rq4 ⟨(oy rfl rfl),AIo⟩ (Aq fun W g=>Gj hsa hpo (hr.kn g) hv),Cn r6 (fun _=>BV),AIo⟩ fun a16 w16 g16 Cj=>?_
   refine AE ?_
   refine k10 _ _ ?_
   refine Au Cj rfl rfl ?_
   refine AIm ?_
   refine k9 _ _ ?_
   refine AIi fun K17 k17=>?_
   refine AIh ?_
   replace AG:=AC g16 AG
   replace AN:=AC g16 AN
   replace Ag:=AC g16 Ag
   replace hr:=hr.kn g16
   refine FE (Cj.st w16) 2 [(14,Sp.is (Ao sa po (.slice ao ks.length cap))),(15,Sp.cln w16.heap.size sa po ks.length (ks.map VK.p))] rfl (by kernel_rfl) (by kernel_rfl) (by kernel_rfl)
     ⟨yl r6 (BX hsa hpo (.slice ao ks.length cap) rfl) AG,Ad [Ao sa po (.slice ao ks.length cap)] Tryz.func72 (by kernel_rfl) rq4 ⟨(oy rfl rfl),AIo⟩ (RM hsa hpo hr h64),AIo⟩ fun a18 w18 g18 st18=>?_
   obtain⟨hn18,hd18,e18_14,e18_15,e18_10,e18_11,e18_12,e18_9,e18_5,e18_4,e18_3,e18_2,e18_0,e18_1,-⟩:=st18
   obtain⟨A,ms,e18_15q,hmp,ow,kr,frA,frK⟩:=e18_15
   have fr_ow:∀k,BO (.slice ((some ⟨A,0,none⟩)) ks.length ks.length) k→w16.heap.size≤k:=fun k hk=>(Option.some.inj hk)▸frA
   have fr_kr:∀k,DF ms k→w16.heap.size≤k:=fun k hk=>(frK k hk).1
   have ap_kr_ow:∀k,DF ms k→¬BO (.slice ((some ⟨A,0,none⟩)) ks.length ks.length) k:=fun k hk e=>(frK k hk).2 (Option.some.inj e).symm
   have DR:=CF fr_ow AG
   have Dp:=CF fr_ow AN
   have FZ:=CF fr_ow Ag
   have DS:=CF fr_kr AG
   have C9:=CF fr_kr AN
   have Gm:=CF fr_kr Ag
   replace AG:=AC g18 AG
   have CS:Sv 47 [{ target:=.fn (.func 81) #[pt Eh,pt Nj],args:=#[] }] [(10,_),(11,_),(12,_),(9,_),(5,_),(4,_),(3,_),(2,_),(0,_),(1,_),(15,_)] a18:=⟨hn18,hd18,e18_10,e18_11,e18_12,e18_9,e18_5,e18_4,e18_3,e18_2,e18_0,e18_1,e18_15q,AIo⟩
   refine An CS r7 (BX hsa hpo (.slice ((some ⟨A,0,none⟩)) ks.length ks.length) rfl) AG (by first|rfl|simp[AZ,AI,AQ,hsa.1,hpo.1,hsa.1,hpo.1]) fun w19 g19 h19=>?_
   replace AJ:=Ab g19 (AC g18 (AC g16 AJ)) FK
   replace AN:=Ab g19 (AC g18 AN) Aw
   replace Ag:=Ab g19 (AC g18 Ag) BZ
   replace ow:=ow.offR g19 (AU DR)
   replace kr:=kr.offR g19 (AU DS)
   replace HG:=AD (AA (AA HG g16) g18) g19 ED
   replace AG:=h19
   refine AE ?_
   refine k17 _ _ ?_
   refine AIi fun K20 k20=>?_
   have hml:ks.length=ms.length:=Own.rdk ow
   cases hf:Hd (ks.map VK.p) o
   · refine AIh ?_
     refine AL CS 6 [(17,Ao sa po (.slice ((some ⟨A,0,none⟩)) ks.length ks.length)),(18,AO o),(19,.tuple #[.int .i64 ((i:Int)),.bool false]),(16,.tuple #[.int .i64 ((i:Int)),.bool false]),(20,.int .i64 ((i:Int))),(21,.bool false)]
       ⟨yl r6 (BX hsa hpo (.slice ((some ⟨A,0,none⟩)) ks.length ks.length) rfl) AG,yl r6 (Bn o ho.1) AJ,Ad [Ao sa po (.slice ((some ⟨A,0,none⟩)) ks.length ks.length),AO o] Tryz.func71 (by kernel_rfl) rq4 ⟨(oy rfl rfl),(oy rfl rfl),AIo⟩ (Aq fun W g=>Ui hsa hpo ho hmp (ow.kn g) (kr.1.kn g) hv hf hi),ym r5,BH rq4 (fun _ _ h=>⟨_,_,h,rfl,rfl⟩),BH rq4 (fun _ _ h=>⟨_,_,h,rfl,rfl⟩),AIo⟩ fun a21 w21 g21 DY=>?_
     refine Aa (v:=.int .i64 ((i:Int))) DY r6 fun a22 CX=>?_
     refine Aa (v:=.bool false) CX r6 fun a23 Cg=>?_
     have DZ:Sv _ _ [_,_,_,_,_,_,_,_,_,_,_,_,_] _:=Cg.dl [17,18,19,16,20,21]
     refine AE ?_
     refine k20 _ _ ?_
     refine AIi fun K25 k25=>?_
     refine AIi fun K26 k26=>?_
     refine AIh ?_
     refine AL DZ 1 [(22,.bool false)]
       ⟨ym r5,AIo⟩ fun a27 w27 g27 IC=>?_
     have Wj:=AA g21 g27
     refine AE ?_
     refine k26 _ _ ?_
     refine Au IC rfl rfl ?_
     refine AIm ?_
     refine k25 _ _ ?_
     refine AIi fun K28 k28=>?_
     refine AIi fun K29 k29=>?_
     replace AG:=AC Wj AG
     replace AJ:=AC Wj AJ
     replace AN:=AC Wj AN
     replace Ag:=AC Wj Ag
     replace ow:=ow.kn Wj
     replace kr:=kr.kn Wj
     replace HG:=AA HG Wj
     by_cases hfull:64≤ks.length
     · refine AIh ?_
       refine AL IC 4 [(24,pk CC 64),(25,.slice ((some ⟨A,0,none⟩)) ks.length ks.length),(26,.int .i64 ((ks.length:Nat))),(27,.bool true)]
        ⟨yf r6 (fun _=>by kernel_rfl),yp (i:=2) r6 (Dn (.slice ((some ⟨A,0,none⟩)) ks.length ks.length) rfl) AG rfl (by simp[AI,AQ,hsa.1,hpo.1]),Bk (Tryz.underlying34) rfl rfl trivial (oy rfl rfl) (fun _=>rfl),Cm r6 (fun _=>Ea (decide_eq_true (by omega))),AIo⟩ fun a30 w30 g30 EQ=>?_
       refine AE ?_
       refine k29 _ _ ?_
       refine Ap EQ rfl rfl ?_
       refine AIi fun K31 k31=>?_
       refine AIh ?_
       replace AG:=AC g30 AG
       replace AJ:=AC g30 AJ
       replace AN:=AC g30 AN
       replace Ag:=AC g30 Ag
       refine AL EQ 1 [(28,Ao AS AS (.slice none 0 0))]
        ⟨BI (vs:=[]) rfl rfl trivial trivial (fun _=>bV0 _) (fun _=>rfl),AIo⟩ fun a32 w32 g32 Bc=>?_
       refine An Bc r7 (BX AR AR (.slice none 0 0) rfl) (AC g32 AN) (by first|rfl|simp[AZ,AI,AQ,AR.1,AR.1]) fun w33 g33 h33=>?_
       replace Ag:=Ak g32 g33 Ag Am
       refine An Bc r7 (Ed 8) Ag rfl fun w34 g34 h34=>?_
       replace AG:=Ab g34 (Ak g32 g33 AG (Ne.symm Aw)) (Ne.symm BZ)
       replace AJ:=Ab g34 (Ak g32 g33 AJ (Ne.symm A9)) (Ne.symm B7)
       replace AN:=Ab g34 h33 (Ne.symm Am)
       replace ow:=(((ow.kn g30).kn g32).offR g33 (AU Dp)).offR g34 (AU FZ)
       replace kr:=(((kr.kn g30).kn g32).offR g33 (AU C9)).offR g34 (AU Gm)
       replace HG:=AD (AD (AA (AA HG g30) g32) g33 Br) g34 DJ
       replace Ag:=h34
       refine AE ?_
       refine k31 _ _ ?_
       refine AIl ?_
       repeat refine AM ?_
       refine BK (fn:=Tryz.f36) Bc (BQ (p:=4) (q:=5) Tryz.results36 Bc rfl rfl rfl rfl (BX AR AR (.slice none 0 0) rfl) (Ed 8) AN Ag) (Bl Tryz.func81 (by kernel_rfl) rfl _ _) (FI _ _ _) ?_
       exact VRes.zero (by unfold KZ;rw[if_pos hv,if_neg (by rw[hf];simp),if_pos (by simpa using hfull)]) HG
     · refine AIh ?_
       refine AL IC 4 [(24,pk CC 64),(25,.slice ((some ⟨A,0,none⟩)) ks.length ks.length),(26,.int .i64 ((ks.length:Nat))),(27,.bool false)]
        ⟨yf r6 (fun _=>by kernel_rfl),yp (i:=2) r6 (Dn (.slice ((some ⟨A,0,none⟩)) ks.length ks.length) rfl) AG rfl (by simp[AI,AQ,hsa.1,hpo.1]),Bk (Tryz.underlying34) rfl rfl trivial (oy rfl rfl) (fun _=>rfl),Cm r6 (fun _=>Ea (decide_eq_false (by omega))),AIo⟩ fun a35 w35 g35 Kh=>?_
       refine AE ?_
       refine k29 _ _ ?_
       refine Au Kh rfl rfl ?_
       refine AIm ?_
       refine k28 _ _ ?_
       refine AIi fun K36 k36=>?_
       replace AG:=AC g35 AG
       replace AJ:=AC g35 AJ
       replace AN:=AC g35 AN
       replace Ag:=AC g35 Ag
       replace ow:=ow.kn g35
       replace kr:=kr.kn g35
       replace HG:=AA HG g35
       refine DB (Kh.st w35) (by kernel_rfl) 7 [(29,Sp.is (AO o)),(30,Sp.is (pk CC 32)),(31,Sp.is (AO po)),(32,Sp.is (AO ((kd 275 po)))),(33,Sp.ct w35.heap.size T),(34,Sp.ck w35.heap.size o T),(8,Sp.new w35.heap.size (([bv AS,[.slice none 0 0]].flatten)) 58)] rfl (by kernel_rfl) (by kernel_rfl) (by kernel_rfl) [] (by kernel_rfl)
        ⟨yl r6 (Bn o ho.1) AJ,yf r6 (fun _=>by kernel_rfl),yp (i:=1) r6 (Bn po hpo.1) AG rfl (by simp[AI,AQ,hsa.1,hpo.1]),Ad [.int .u64 275,AO po,.slice none 0 0] Tryz.func66 (by kernel_rfl) rq4 ⟨rfl,(oy rfl rfl),rfl,AIo⟩ (Aq fun W g=>Ly (n:=275) (by decide) rfl hpo W),Ad [AO ((kd 275 po))] Tryz.func82 (by kernel_rfl) rq4 ⟨(oy rfl rfl),AIo⟩ (ADP (BF _ _) hT),KJ rfl rfl trivial rfl (fun W _ av h=>match av,h with|[u,t],⟨h1,h2,_⟩=>ABC ho h1 h2),Lv rfl trivial (Nat.le_refl _) (fun a w=>by kernel_rfl) (fun _ _ h=>h),AIo⟩ trivial
        [8] (by kernel_rfl) ⟨Sp.new_lt,AIo⟩ ⟨.inl rfl,.inl rfl,.inl rfl,.inl rfl,.inl rfl,.inl rfl,.inr ⟨rfl,(([bv AS,[.slice none 0 0]].flatten)).toArray,58,fun a w=>by kernel_rfl⟩,AIo⟩ (by kernel_rfl) fun a37 w37 g37 st37 nd37=>?_
       obtain⟨hn37,hd37,e37_29,e37_30,e37_31,e37_32,e37_33,e37_34,e37_8,e37_24,e37_25,e37_26,e37_27,e37_22,e37_7,e37_6,e37_10,e37_11,e37_12,e37_9,e37_5,e37_4,e37_3,e37_2,e37_0,e37_1,e37_15,-⟩:=st37
       obtain⟨y,e37_34q,hyo,hyl,rt,frB⟩:=e37_34
       obtain⟨AGp,e37_8q,Gn,Ov⟩:=e37_8
       have QC:=Hk AG Gn
       have QD:=Hk AJ Gn
       have QE:=Hk AN Gn
       have QF:=Hk Ag Gn
       have ABX:=UL HG Gn
       have Uj:=Lu (Own.ltS ow) Gn
       have Uk:=Lu (kr.lt) Gn
       have I0:=CF frB AG
       have Gp:=CF frB AN
       have Wk:=CF frB Ag
       have Ul:=rt.2.ap Ov (by decide)
       have F6:Sv 47 [{ target:=.fn (.func 81) #[pt Eh,pt Nj],args:=#[] }] [(24,_),(25,_),(26,_),(27,_),(22,_),(7,_),(6,_),(10,_),(11,_),(12,_),(9,_),(5,_),(4,_),(3,_),(2,_),(0,_),(1,_),(15,_),(34,_),(8,_)] a37:=⟨hn37,hd37,e37_24,e37_25,e37_26,e37_27,e37_22,e37_7,e37_6,e37_10,e37_11,e37_12,e37_9,e37_5,e37_4,e37_3,e37_2,e37_0,e37_1,e37_15,e37_34q,e37_8q,AIo⟩
       refine An F6 r7 (Ry y) Ov (by first|rfl|simp[AZ,AI,AQ,y.ho.1]) fun w38 g38 h38=>?_
       replace AG:=Ab g38 (AC g37 AG) (Ne.symm QC)
       replace AJ:=Ab g38 (AC g37 AJ) (Ne.symm QD)
       replace AN:=Ab g38 (AC g37 AN) (Ne.symm QE)
       replace Ag:=Ab g38 (AC g37 Ag) (Ne.symm QF)
       replace HG:=AD (AA HG g37) g38 ABX
       replace Ov:=h38
       refine AE ?_
       refine k36 _ _ ?_
       refine AIi fun K39 k39=>?_
       refine AIh ?_
       refine FE (F6.st w38) 5 [(35,Sp.is (pk CC 64)),(36,Sp.is (.slice ((some ⟨A,0,none⟩)) ks.length ks.length)),(37,Sp.is (.int .i64 ((i:Int)))),(38,Sp.is (F4 y)),(39,Sp.lit1 w38.heap.size 58 (AZ y))] rfl (by kernel_rfl) (by kernel_rfl) (by kernel_rfl)
        ⟨yf r6 (fun _=>by kernel_rfl),yp (i:=2) r6 (Dn (.slice ((some ⟨A,0,none⟩)) ks.length ks.length) rfl) AG rfl (by simp[AI,AQ,hsa.1,hpo.1]),ym r5,yl r6 (Ry y) Ov,N1 rfl rfl trivial (Nat.le_refl _) rfl (fun W hw v h=>match v,h with|_,⟨rfl,_⟩=>⟨AZ y,AGj y W,fun w' _ hh=>⟨_,rfl,hw.size,hh⟩⟩),AIo⟩ fun a40 w40 g40 st40=>?_
       obtain⟨hn40,hd40,e40_35,e40_36,e40_37,e40_38,e40_39,e40_24,e40_25,e40_26,e40_27,e40_22,e40_7,e40_6,e40_10,e40_11,e40_12,e40_9,e40_5,e40_4,e40_3,e40_2,e40_0,e40_1,e40_15,e40_34,e40_8,-⟩:=st40
       obtain⟨V,e40_39q,geV,HV⟩:=e40_39
       have My:V≠CC:=Nat.ne_of_gt (Nat.lt_of_lt_of_le (Array.getElem?_eq_some_iff.1 AG).1 geV)
       have Zd:V≠Bo:=Nat.ne_of_gt (Nat.lt_of_lt_of_le (Array.getElem?_eq_some_iff.1 AJ).1 geV)
       have RN:V≠Eh:=Nat.ne_of_gt (Nat.lt_of_lt_of_le (Array.getElem?_eq_some_iff.1 AN).1 geV)
       have Ze:V≠Nj:=Nat.ne_of_gt (Nat.lt_of_lt_of_le (Array.getElem?_eq_some_iff.1 Ag).1 geV)
       have AFg:V≠AGp:=Nat.ne_of_gt (Nat.lt_of_lt_of_le (Array.getElem?_eq_some_iff.1 Ov).1 geV)
       have lo_V:w.heap.size≤V:=Nat.le_trans HG.size geV
       replace AG:=AC g40 AG
       replace AN:=AC g40 AN
       replace Ag:=AC g40 Ag
       replace ow:=((ow.kn g37).offR g38 (AU Uj)).kn g40
       have Ji:Sv 47 [{ target:=.fn (.func 81) #[pt Eh,pt Nj],args:=#[] }] [(24,_),(25,_),(26,_),(27,_),(22,_),(7,_),(6,_),(10,_),(11,_),(12,_),(9,_),(5,_),(4,_),(3,_),(2,_),(0,_),(1,_),(15,_),(34,_),(8,_),(36,_),(37,_),(39,_)] a40:=⟨hn40,hd40,e40_24,e40_25,e40_26,e40_27,e40_22,e40_7,e40_6,e40_10,e40_11,e40_12,e40_9,e40_5,e40_4,e40_3,e40_2,e40_0,e40_1,e40_15,e40_34,e40_8,e40_36,e40_37,e40_39q,AIo⟩
       refine FE (Ji.st w40) 2 [(40,Sp.insr w40.heap.size (ks.length+1) (ms.take i++y::ms.drop i)),(41,Sp.is (pk CC 64))] rfl (by kernel_rfl) (by kernel_rfl) (by kernel_rfl)
        ⟨Ad [.slice ((some ⟨A,0,none⟩)) ks.length ks.length,.int .i64 ((i:Int)),.slice ((some ⟨V,0,none⟩)) 1 1] Tryz.func83 (by kernel_rfl) rq4 ⟨(oy rfl rfl),(oy rfl rfl),(oy rfl rfl),AIo⟩ (AFf hml ow HV hin h64),yf r6 (fun _=>by kernel_rfl),AIo⟩ fun a41 w41 g41 st41=>?_
       obtain⟨hn41,hd41,e41_40,e41_41,e41_24,e41_25,e41_26,e41_27,e41_22,e41_7,e41_6,e41_10,e41_11,e41_12,e41_9,e41_5,e41_4,e41_3,e41_2,e41_0,e41_1,e41_15,e41_34,e41_8,e41_36,e41_37,e41_39,-⟩:=st41
       obtain⟨ai,ci,e41_40q,oi,fri⟩:=e41_40
       have Ow:=CF fri AG
       have Wl:=CF fri AN
       have Wm:=CF fri Ag
       replace AG:=AC g41 AG
       have JP:Sv 47 [{ target:=.fn (.func 81) #[pt Eh,pt Nj],args:=#[] }] [(24,_),(25,_),(26,_),(27,_),(22,_),(7,_),(6,_),(10,_),(11,_),(12,_),(9,_),(5,_),(4,_),(3,_),(2,_),(0,_),(1,_),(15,_),(34,_),(8,_),(36,_),(37,_),(39,_),(40,_),(41,_)] a41:=⟨hn41,hd41,e41_24,e41_25,e41_26,e41_27,e41_22,e41_7,e41_6,e41_10,e41_11,e41_12,e41_9,e41_5,e41_4,e41_3,e41_2,e41_0,e41_1,e41_15,e41_34,e41_8,e41_36,e41_37,e41_39,e41_40q,e41_41,AIo⟩
       refine Jc (L:=[bv sa,bv po,[.slice ((some ⟨A,0,none⟩)) ks.length ks.length]]) (i:=2) JP r7 (Dn (.slice ai (ks.length+1) ci) rfl) AG rfl (by simp[AI,AQ,hsa.1,hpo.1]) rfl fun w42 g42 h42=>?_
       replace AJ:=Ab g42 (AC g41 (AC g40 AJ)) FK
       replace AN:=Ab g42 (AC g41 AN) Aw
       replace Ag:=Ab g42 (AC g41 Ag) BZ
       replace HV:=Ab g42 (AC g41 HV) My
       replace AG:=h42
       have Hf:Sv _ _ [_,_,_,_,_,_,_,_,_,_,_,_,_,_,_,_,_,_,_] _:=JP.dl [6,36,37,39,40,41]
       refine AE ?_
       refine k39 _ _ ?_
       refine AIi fun K44 k44=>?_
       refine AIh ?_
       refine AL Hf 4 [(42,pk CC 32),(43,AO po),(44,AO ((kd 276 po))),(45,pk CC 32)]
        ⟨yf r6 (fun _=>by kernel_rfl),yp (i:=1) r6 (Bn po hpo.1) AG rfl (by simp[AI,AQ,hsa.1,hpo.1]),Ad [.int .u64 276,AO po,.slice none 0 0] Tryz.func66 (by kernel_rfl) rq4 ⟨rfl,(oy rfl rfl),rfl,AIo⟩ (Aq fun W g=>Ly (n:=276) (by decide) rfl hpo W),yf r6 (fun _=>by kernel_rfl),AIo⟩ fun a45 w45 g45 Ec=>?_
       refine Jc (L:=[bv sa,bv po,[.slice ai (ks.length+1) ci]]) (i:=1) Ec r7 (Bn ((kd 276 po)) (BF _ _).1) (AC g45 AG) rfl (by simp[AI,AQ,hsa.1,hpo.1]) (Xt hpo (BF _ _)) fun w46 g46 h46=>?_
       replace AN:=Ak g45 g46 AN Aw
       replace AG:=h46
       have Jl:Sv _ _ [_,_,_,_,_,_,_,_,_,_,_,_,_,_,_,_,_,_,_] _:=Ec.dl [42,43,44,45]
       refine AE ?_
       refine k44 _ _ ?_
       refine AIi fun K48 k48=>?_
       refine AIh ?_
       refine AL Jl 1 [(46,Ao sa ((kd 276 po)) (.slice ai (ks.length+1) ci))]
        ⟨yl r6 (BX hsa (BF _ _) (.slice ai (ks.length+1) ci) rfl) AG,AIo⟩ fun a49 w49 g49 Ki=>?_
       refine An Ki r7 (BX hsa (BF _ _) (.slice ai (ks.length+1) ci) rfl) (AC g49 AN) (by first|rfl|simp[AZ,AI,AQ,hsa.1,(BF _ _).1]) fun w50 g50 h50=>?_
       replace Ag:=Ak g49 g50 (Ak g45 g46 Ag BZ) Am
       refine An Ki r7 (Ed 0) Ag rfl fun w51 g51 h51=>?_
       replace AG:=Ab g51 (Ak g49 g50 AG (Ne.symm Aw)) (Ne.symm BZ)
       replace AJ:=Ab g51 (Ak g49 g50 (Ak g45 g46 AJ FK) (Ne.symm A9)) (Ne.symm B7)
       replace AN:=Ab g51 h50 (Ne.symm Am)
       replace HV:=Ab g51 (Ak g49 g50 (Ak g45 g46 HV My) RN) Ze
       replace ow:=((((((ow.kn g41).offR g42 (AU DR)).kn g45).offR g46 (AU DR)).kn g49).offR g50 (AU Dp)).offR g51 (AU FZ)
       replace kr:=(((((((((kr.kn g37).offR g38 (AU Uk)).kn g40).kn g41).offR g42 (AU DS)).kn g45).offR g46 (AU DS)).kn g49).offR g50 (AU C9)).offR g51 (AU Gm)
       replace rt:=((((((((rt.offR g38 (AU Ul)).kn g40).kn g41).offR g42 (AU I0)).kn g45).offR g46 (AU I0)).kn g49).offR g50 (AU Gp)).offR g51 (AU Wk)
       replace oi:=(((((oi.offR g42 (AU Ow)).kn g45).offR g46 (AU Ow)).kn g49).offR g50 (AU Wl)).offR g51 (AU Wm)
       replace HG:=AD (AD (AA (AD (AA (AD (AA (AA HG g40) g41) g42 ED) g45) g46 ED) g49) g50 Br) g51 DJ
       replace Ag:=h51
       refine AE ?_
       refine k48 _ _ ?_
       refine AIl ?_
       repeat refine AM ?_
       refine BK (fn:=Tryz.f36) Ki (BQ (p:=4) (q:=5) Tryz.results36 Ki rfl rfl rfl rfl (BX hsa (BF _ _) (.slice ai (ks.length+1) ci) rfl) (Ed 0) AN Ag) (Bl Tryz.func81 (by kernel_rfl) rfl _ _) (FI _ _ _) ?_
       exact VRes.mk (P:=LG (ks.map VK.p) o T) (by unfold KZ;rw[if_pos hv,if_neg (by rw[hf];simp),if_neg (by simpa using hfull)]) (ADc hmp hi hyo hyl) oi (KsT.ins kr rt i) HG
   · refine AIh ?_
     refine AL CS 6 [(17,Ao sa po (.slice ((some ⟨A,0,none⟩)) ks.length ks.length)),(18,AO o),(19,.tuple #[.int .i64 ((i:Int)),.bool true]),(16,.tuple #[.int .i64 ((i:Int)),.bool true]),(20,.int .i64 ((i:Int))),(21,.bool true)]
       ⟨yl r6 (BX hsa hpo (.slice ((some ⟨A,0,none⟩)) ks.length ks.length) rfl) AG,yl r6 (Bn o ho.1) AJ,Ad [Ao sa po (.slice ((some ⟨A,0,none⟩)) ks.length ks.length),AO o] Tryz.func71 (by kernel_rfl) rq4 ⟨(oy rfl rfl),(oy rfl rfl),AIo⟩ (Aq fun W g=>Ui hsa hpo ho hmp (ow.kn g) (kr.1.kn g) hv hf hi),ym r5,BH rq4 (fun _ _ h=>⟨_,_,h,rfl,rfl⟩),BH rq4 (fun _ _ h=>⟨_,_,h,rfl,rfl⟩),AIo⟩ fun a52 w52 g52 Nk=>?_
     refine Aa (v:=.int .i64 ((i:Int))) Nk r6 fun a53 Zf=>?_
     refine Aa (v:=.bool true) Zf r6 fun a54 Nl=>?_
     have ADd:Sv _ _ [_,_,_,_,_,_,_,_,_,_,_,_,_] _:=Nl.dl [17,18,19,16,20,21]
     refine AE ?_
     refine k20 _ _ ?_
     refine AIi fun K56 k56=>?_
     refine AIi fun K57 k57=>?_
     refine AIh ?_
     refine AL ADd 1 [(22,.bool true)]
       ⟨ym r5,AIo⟩ fun a58 w58 g58 SD=>?_
     have AGq:=AA g52 g58
     refine AE ?_
     refine k57 _ _ ?_
     refine Ap SD rfl rfl ?_
     refine AIi fun K59 k59=>?_
     refine AIh ?_
     refine AL SD 1 [(23,Ao sa po (.slice ((some ⟨A,0,none⟩)) ks.length ks.length))]
       ⟨yl r6 (BX hsa hpo (.slice ((some ⟨A,0,none⟩)) ks.length ks.length) rfl) (AC AGq AG),AIo⟩ fun a60 w60 g60 Zg=>?_
     have ABY:=AA AGq g60
     refine An Zg r7 (BX hsa hpo (.slice ((some ⟨A,0,none⟩)) ks.length ks.length) rfl) (AC ABY AN) (by first|rfl|simp[AZ,AI,AQ,hsa.1,hpo.1]) fun w61 g61 h61=>?_
     replace Ag:=Ak ABY g61 Ag Am
     refine An Zg r7 (Ed 0) Ag rfl fun w62 g62 h62=>?_
     replace AN:=Ab g62 h61 (Ne.symm Am)
     replace ow:=((ow.kn ABY).offR g61 (AU Dp)).offR g62 (AU FZ)
     replace kr:=((kr.kn ABY).offR g61 (AU C9)).offR g62 (AU Gm)
     replace HG:=AD (AD (AA HG ABY) g61 Br) g62 DJ
     replace Ag:=h62
     refine AE ?_
     refine k59 _ _ ?_
     refine AIl ?_
     repeat refine AM ?_
     refine BK (fn:=Tryz.f36) Zg (BQ (p:=4) (q:=5) Tryz.results36 Zg rfl rfl rfl rfl (BX hsa hpo (.slice ((some ⟨A,0,none⟩)) ks.length ks.length) rfl) (Ed 0) AN Ag) (Bl Tryz.func81 (by kernel_rfl) rfl _ _) (FI _ _ _) ?_
     exact VRes.mk (P:=ks.map VK.p) (by unfold KZ;rw[if_pos hv,if_pos hf]) hmp ow kr HG
end Go.Proofs.YtbfjfnbcmojpiaaGreat
