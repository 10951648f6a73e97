import Derived.Test.YtbfjfnbcmojpiaaGreatShSH
set_option linter.unusedSimpArgs false
set_option linter.unusedVariables false
set_option maxRecDepth 100000
set_option maxHeartbeats 4000000
namespace Go.Proofs.YtbfjfnbcmojpiaaGreat
open Go.RowKit Go.Shelf
theorem AAJ (l:List Nd):(BB l).all Value.oneCell'=true:=Px l
theorem AAK {w:World} {ao:Option Addr} {n cap j:Nat} {ks:List VK} {x:VK} (h:Sl w 33 (.slice ao n cap) n (ks.flatMap Ag)) (hj:j<ks.length) (hx:ks[j]=x):w.rangeAt (bO ao) (oO ao+j*33) (Ag x):=hx▸Dq h C7 hj (by decide)
theorem Mo {w:World} {ao:Option Addr} {n cap j:Nat} {ks:List VK} {x:VK} (h:Sl w 33 (.slice ao n cap) n (ks.flatMap Ag)) (hj:j<ks.length) (hx:ks[j]=x):w.rangeAt (bO ao) (oO ao+j*33) (bv x.o):=
 PO (o:=oO ao+j*33) (k:=0) (A:=[]) (B:=bv x.o) (C:=[x.s]) (AAK h hj hx) rfl
theorem ACo  (w:World) :
  Calls Tryz.prog 114 #[.slice none 0 0] w fun e w'=>e=.returned (.slice none 0 0)∧w.grownBy w' none:=by
 refine Bg Tryz.func114 rfl Tryz.ntmps114 rfl fun a0 sv0=>?_
 have HG:=World.grownBy.refl w none
 replace sv0:Sv 8 [] [(0,.slice none 0 0)] a0:=sv0
 refine ALo fun K1 k1=>?_
 refine ALn ?_
 refine Aa (v:=.slice none 0 0) sv0 r6 fun a2 sv2=>?_
 refine AE ?_
 refine k1 _ _ ?_
 refine ALo fun K3 k3=>?_
 refine ALo fun K4 k4=>?_
 refine ALn ?_
 refine AI sv2 2 [(3,.slice none 0 0),(4,.bool true)]
  ⟨ym r5,CQ r6 (fun _=>VG Tryz.underlying54 rfl),ALu⟩ fun a5 w5 g5 sv5=>?_
 refine AE ?_
 refine k4 _ _ ?_
 refine Ay sv5 rfl rfl ?_
 refine ALo fun K6 k6=>?_
 refine ALn ?_
 refine Aa (v:=.slice none 0 0) sv5 r6 fun a7 sv7=>?_
 refine AE ?_
 refine k6 _ _ ?_
 replace HG:=AA HG g5
 refine ALr ?_
 repeat refine AL ?_
 refine BH (fn:=Tryz.f114) sv7 (BD (p:=2) Tryz.results114 sv7 rfl rfl) ?_
 exact⟨rfl,HG⟩
theorem AAL (l:List Nd) (ad:Addr) (cap:Nat) (w:World) (h:RdT w (.slice ((some ad)) l.length cap) l) :
  Calls Tryz.prog 114 #[.slice ((some ad)) l.length cap] w fun e w'=>∃ao cap,e=.returned (.slice ao l.length cap)∧RdTg w' (.slice ao l.length cap) l∧(∀k,Nv (.slice ao l.length cap) k→w.heap.size≤k)∧w.grownBy w' none:=by
 refine Bg Tryz.func114 rfl Tryz.ntmps114 rfl fun a0 sv0=>?_
 have HG:=World.grownBy.refl w none
 replace sv0:Sv 8 [] [(0,.slice ((some ad)) l.length cap)] a0:=sv0
 refine ALo fun K1 k1=>?_
 refine ALn ?_
 refine Aa (v:=.slice none 0 0) sv0 r6 fun a2 sv2=>?_
 refine AE ?_
 refine k1 _ _ ?_
 refine ALo fun K3 k3=>?_
 refine ALo fun K4 k4=>?_
 refine ALn ?_
 refine AI sv2 2 [(3,.slice ((some ad)) l.length cap),(4,.bool false)]
  ⟨ym r5,CQ r6 (fun _=>VG Tryz.underlying54 rfl),ALu⟩ fun a5 w5 g5 sv5=>?_
 refine AE ?_
 refine k4 _ _ ?_
 refine Az sv5 rfl rfl ?_
 refine ALs ?_
 refine k3 _ _ ?_
 refine ALo fun K6 k6=>?_
 refine ALn ?_
 replace h:=h.kn g5
 replace HG:=AA HG g5
 refine E6 (sv5.st w5) 3 [(5,Sp.lit0 w5.heap.size 132),(6,Sp.is (.slice ((some ad)) l.length cap)),(7,Sp.row w5.heap.size 132 34 l.length (BB l))] rfl (by kernel_rfl) (by kernel_rfl) (by kernel_rfl)
  ⟨VL (t:=0) rfl trivial (Nat.le_refl _) (fun a w=>by kernel_rfl) (fun _ _ h=>h),ym r5,VM (news:=BB l) PJ rfl rfl trivial rfl (fun _ _ h=>h) (oy rfl rfl) (fun _ g=>(h.kn g).1) (AAJ l) h.2.2.2 (Nat.le_refl _) (fun _ _ h=>h),ALu⟩ fun a7 w7 g7 st7=>?_
 obtain⟨hn7,hd7,e7_5,e7_6,e7_7,e7_3,e7_4,e7_2,e7_0,-⟩:=st7
 obtain⟨ao8,cap8,e7_7q,ow8,fr8⟩:=e7_7
 have AAM:=LO HG fr8
 replace h:=h.kn g7
 replace HG:=AA HG g7
 have sv7:Sv 8 [] [(3,_),(4,_),(2,_),(0,_),(7,_)] a7:=⟨hn7,hd7,e7_3,e7_4,e7_2,e7_0,e7_7q,ALu⟩
 refine Aa (v:=.slice ao8 l.length cap8) sv7 r6 fun a9 sv9=>?_
 refine AE ?_
 refine k6 _ _ ?_
 refine ALr ?_
 repeat refine AL ?_
 refine BH (fn:=Tryz.f114) sv9 (BD (p:=2) Tryz.results114 sv9 rfl rfl) ?_
 exact⟨_,_,rfl,⟨⟨Sl.of_own ow8,h.2.1,fun k hk=>Own.lt ow8 k hk.1,h.2.2.2⟩,Tag.of ow8⟩,fun k hk=>AAM k hk.1,HG⟩
theorem AAN {l:List Nd} {s:Value} {w:World} (h:RdT w s l):Calls Tryz.prog 114 #[s] w fun e w'=>∃ao cap,e=.returned (.slice ao l.length cap)∧RdTg w' (.slice ao l.length cap) l∧(∀k,Nv (.slice ao l.length cap) k→w.heap.size≤k)∧w.grownBy w' none:=by
 obtain⟨ao,cap,rfl⟩:=h.shape
 cases ao with
 | some ad=>exact AAL l ad cap w h
 | none =>
  have h0:l.length=0∧cap=0:=by
   obtain⟨⟨_,ao',cap',e,h1,_,h3,_⟩,_⟩:=h
   simp only[Value.slice.injEq,true_and] at e
   obtain⟨rfl,rfl⟩:=e
   have:=h3 rfl
   omega
  obtain⟨h1,rfl⟩:=h0
  obtain rfl:l=[]:=List.eq_nil_of_length_eq_zero h1
  exact(ACo w).mono fun e w' ⟨h1,h2⟩=>⟨none,0,h1,⟨h.kn h2,fun k hk=>(Uq k hk).elim⟩,fun k hk=>(Uq k hk).elim,h2⟩
theorem AEo {w0:World} {l:List Nd} {s:Value} (h:RdT w0 s l):∀W,w0.grownBy W none→Calls Tryz.prog 114 #[s] W fun e W'=>∃v,e=.returned v∧W.grownBy W' none∧(Sp.cl w0.heap.size l).on W' v:=fun W g =>
 (AAN (h.kn g)).mono fun e W' ⟨ao,cap,h1,h2,h3,h4⟩=>⟨_,h1,h4,ao,cap,rfl,h2,fun k hk=>Nat.le_trans g.size (h3 k hk)⟩
theorem Xu (ks:List VK) (ao:Option Addr) (cap:Nat) (sa po:List Nat) (hsa:Dg sa) (hpo:Dg po) (w:World) (hr:RdK w (.slice ao ks.length cap) ks) (h64:ks.length≤64) :
   Calls Tryz.prog 72 #[Ao sa po (.slice ao ks.length cap)] w fun e w'=>∃A ms,e=.returned (Ao sa po (.slice (some ⟨A,0,none⟩) ks.length ks.length))∧ms.map VK.p=ks.map VK.p∧Own w' 58 33 (.slice (some ⟨A,0,none⟩) ks.length ks.length) ks.length (ms.flatMap Ag)∧KsT w' ms∧w.heap.size≤A∧(∀k,DU ms k→w.heap.size≤k∧k≠A)∧w.grownBy w' none:=by
 refine Bg Tryz.func72 rfl Tryz.ntmps72 rfl fun a0 sv0=>?_
 have HG:=World.grownBy.refl w none
 replace sv0:Sv 33 [] [(0,Ao sa po (.slice ao ks.length cap))] a0:=sv0
 refine ALo fun K1 k1=>?_
 refine ALn ?_
 refine Bn sv0 r6 (BX hsa hpo (.slice ao ks.length cap) rfl) fun a2 w2 CO GJ g2 z2 Ad sv2=>?_
 have AGv:=Bt HG GJ
 replace HG:=AA HG g2
 refine Av (T:=36) (Z:=([bv AQ,bv AQ,[.slice none 0 0]].flatten)) sv2 rfl rfl rfl (fun a w=>by kernel_rfl) fun a3 w3 PW Jc g3 z3 CX sv3=>?_
 have VY:=Ar Ad Jc
 have Kj:=Bt HG Jc
 replace Ad:=AC g3 Ad
 replace hr:=(hr.kn g2).kn g3
 replace HG:=AA HG g3
 refine AE ?_
 refine k1 _ _ ?_
 refine ALo fun K4 k4=>?_
 refine ALn ?_
 refine E6 (sv3.st w3) 4 [(6,Sp.is (pk CO 64)),(7,Sp.is (.slice ao ks.length cap)),(8,Sp.is (.int .i64 ((ks.length:Nat)))),(9,Sp.made w3.heap.size 58 33 ks.length ((List.replicate ks.length Ri).flatMap Ag))] rfl (by kernel_rfl) (by kernel_rfl) (by kernel_rfl)
   ⟨yf r6 (fun _=>by kernel_rfl),yp (i:=2) r6 (Eb (.slice ao ks.length cap) rfl) Ad rfl (by simp[AJ,AU,hsa.1,hpo.1]),CB (Tryz.underlying34) rfl rfl trivial (oy rfl rfl) (fun _=>rfl),AGj (m:=ks.length) (xs:=(List.replicate ks.length Ri).flatMap Ag) Xr rfl rfl trivial (Nat.le_refl _) (oy rfl rfl) (by omega) (AJw _).symm (fun _ _ h=>h),ALu⟩ fun a5 w5 g5 st5=>?_
 obtain⟨hn5,hd5,e5_6,e5_7,e5_8,e5_9,e5_2,e5_1,e5_0,-⟩:=st5
 obtain⟨A,e5_9q,ow,geA⟩:=e5_9
 have frA:∀k,Bq (.slice ((some ⟨A,0,none⟩)) ks.length ks.length) k→w3.heap.size≤k:=fun k hk=>(Option.some.inj hk)▸geA
 have Iz:=CK frA Ad
 have I0:=CK frA CX
 have ap_hr_ow:=AEV (hr.lt) frA
 have lo_ow:=LO HG frA
 replace Ad:=AC g5 Ad
 have sv5:Sv 33 [] [(2,_),(1,_),(0,_),(9,_)] a5:=⟨hn5,hd5,e5_2,e5_1,e5_0,e5_9q,ALu⟩
 refine Aa (v:=.slice ((some ⟨A,0,none⟩)) ks.length ks.length) sv5 r6 fun a6 sv6=>?_
 refine AE ?_
 refine k4 _ _ ?_
 refine ALo fun K7 k7=>?_
 refine ALo fun K8 k8=>?_
 refine ALn ?_
 refine AI sv6 4 [(10,pk CO 64),(11,.slice ao ks.length cap),(12,.int .i64 ((ks.length:Nat))),(13,.int .i64 0)]
   ⟨yf r6 (fun _=>by kernel_rfl),yp (i:=2) r6 (Eb (.slice ao ks.length cap) rfl) Ad rfl (by simp[AJ,AU,hsa.1,hpo.1]),CB (Tryz.underlying34) rfl rfl trivial (oy rfl rfl) (fun _=>rfl),FE (.inl rfl) rfl trivial (fun _=>rfl),ALu⟩ fun a9 w9 g9 sv9=>?_
 refine AE ?_
 refine k8 _ _ ?_
 refine BM fun Q10 x10 y10 r10 o10=>?_
 replace Ad:=AC g9 Ad
 replace CX:=AC g9 (AC g5 CX)
 replace hr:=(hr.kn g5).kn g9
 replace ow:=ow.kn g9
 replace HG:=AA (AA HG g5) g9
 have kr:=KsT.rep w9 ks.length
 have Kk:∀k,DU (List.replicate ks.length Ri) k→k≠CO:=fun k hk=>(Lz _ _ hk).elim
 have Kl:∀k,DU (List.replicate ks.length Ri) k→k≠PW:=fun k hk=>(Lz _ _ hk).elim
 have ap_kr_ow:∀k,DU (List.replicate ks.length Ri) k→¬Bq (.slice ((some ⟨A,0,none⟩)) ks.length ks.length) k:=fun k hk=>(Lz _ _ hk).elim
 refine wp_loop (fun a w'=>∃(i:Nat) (ms:List VK),(i≤ks.length)∧(ms.length=ks.length)∧(∀j,j<i→(ms.map VK.p)[j]?=(ks.map VK.p)[j]?)∧(∀k,DU ms k→w.heap.size≤k)∧Sv 33 [] [(13,.int .i64 ((i:Int))),(10,pk CO 64),(11,.slice ao ks.length cap),(12,.int .i64 ((ks.length:Nat))),(3,.slice ((some ⟨A,0,none⟩)) ks.length ks.length),(2,pt PW),(1,pt CO),(0,Ao sa po (.slice ao ks.length cap)),(9,.slice ((some ⟨A,0,none⟩)) ks.length ks.length)] a∧w.grownBy w' none∧w'.heap[CO]?=some (.cells ([bv sa,bv po,[.slice ao ks.length cap]].flatten).toArray 36 (0,0))∧w'.heap[PW]?=some (.cells (([bv AQ,bv AQ,[.slice none 0 0]].flatten)).toArray 36 (0,0))∧RdK w' (.slice ao ks.length cap) ks∧Own w' 58 33 (.slice ((some ⟨A,0,none⟩)) ks.length ks.length) ks.length (ms.flatMap Ag)∧KsT w' ms∧(∀k,Bq (.slice ((some ⟨A,0,none⟩)) ks.length ks.length) k→k≠CO)∧(∀k,Bq (.slice ((some ⟨A,0,none⟩)) ks.length ks.length) k→k≠PW)∧(∀k,KX (.slice ao ks.length cap) ks k→¬Bq (.slice ((some ⟨A,0,none⟩)) ks.length ks.length) k)∧(∀k,DU ms k→¬Bq (.slice ((some ⟨A,0,none⟩)) ks.length ks.length) k)∧(∀k,Bq (.slice ((some ⟨A,0,none⟩)) ks.length ks.length) k→w.heap.size≤k)∧(∀k,DU ms k→k≠CO)∧(∀k,DU ms k→k≠PW)) (fun a _=>(ks.length-intOf (a.tmps.getD 13 undef)).toNat) ⟨0,List.replicate ks.length Ri,Nat.zero_le _,by simp,fun j hj=>by omega,fun k hk=>(Lz _ _ hk).elim,⟨sv9.1,sv9.2.1,sv9.2.2.2.2.2.1,sv9.2.2.1,sv9.2.2.2.1,sv9.2.2.2.2.1,sv9.2.2.2.2.2.2.1,sv9.2.2.2.2.2.2.2.1,(AH sv9).1,(AH sv9).2.1,(AH sv9).2.2.1,ALu⟩,HG,Ad,CX,hr,ow,kr,Iz,I0,ap_hr_ow,ap_kr_ow,lo_ow,Kk,Kl⟩ fun a11 w11 hI11=>?_
 clear Ad
 clear CX
 clear hr
 clear ow
 clear kr
 clear HG
 obtain⟨i,ms,hin,hms,hp,hfr,CV,HG,Ad,CX,hr,ow,kr,Iz,I0,ap_hr_ow,ap_kr_ow,lo_ow,Kk,Kl⟩:=hI11
 refine ALo fun K12 k12=>?_
 by_cases hi:i<ks.length
 · obtain⟨x,hx_x⟩:∃x,ks[i]'hi=x:=⟨_,rfl⟩
   have him:i<ms.length:=by omega
   obtain⟨z,hx_z⟩:∃x,ms[i]'him=x:=⟨_,rfl⟩
   refine ALn ?_
   refine AI CV 1 [(14,.bool true)]
    ⟨Hc r7 (fun _=>Bv (decide_eq_true (by omega))),ALu⟩ fun a13 w13 g13 EC=>?_
   refine AE ?_
   refine k12 _ _ ?_
   refine ALo fun K14 k14=>?_
   refine Ay EC rfl rfl ?_
   refine ALs ?_
   refine k14 _ _ ?_
   refine ALo fun K15 k15=>?_
   refine BM fun Q16 x16 y16 r16 o16=>?_
   refine ALo fun K17 k17=>?_
   refine ALn ?_
   replace hr:=hr.kn g13
   refine AI EC 3 [(15,.int .i64 ((i:Int))),(16,pk ((bO ao)) (oO ao+i*33)),(17,IA x)]
    ⟨ym r5,BV rq8 (fun w=>Ce Tryz.underlying34 (by kernel_rfl) (hr.1.1) (by omega) (rfl) w),CE r6 (fun _ g=>Ac (VN x) (RdK.keyX (hr.kn g) rfl hi hx_x)),ALu⟩ fun a18 w18 g18 CU=>?_
   replace Ad:=AC g18 (AC g13 Ad)
   replace CX:=AC g18 (AC g13 CX)
   replace hr:=hr.kn g18
   replace ow:=(ow.kn g13).kn g18
   replace kr:=(kr.kn g13).kn g18
   replace HG:=AA (AA HG g13) g18
   refine Av (T:=58) (Z:=([bv AQ,[.slice none 0 0]].flatten)) CU rfl rfl rfl (fun a w=>by kernel_rfl) fun a19 w19 ABY KF g19 z19 Rq E3=>?_
   have TV:=Ar Ad KF
   have TW:=Ar CX KF
   have AEp:=Bt HG KF
   have Xv:=A1 (hr.lt) KF
   have Xw:=A1 (Own.ltS ow) KF
   have QA:=A1 (kr.lt) KF
   refine Aa (v:=.int .i64 ((i:Int))) E3 r6 fun a20 FA=>?_
   refine As FA r7 (VN x) Rq (by first|rfl|simp[Ag,AJ,AU,x.ho.1]) fun w21 g21 h21=>?_
   replace Ad:=AY g21 (AC g19 Ad) (Ne.symm TV)
   replace CX:=AY g21 (AC g19 CX) (Ne.symm TW)
   replace hr:=(hr.kn g19).offR g21 (AV Xv)
   replace ow:=(ow.kn g19).offR g21 (AV Xw)
   replace HG:=AD (AA HG g19) g21 AEp
   replace Rq:=h21
   refine AE ?_
   refine k17 _ _ ?_
   refine DZ (FA.st w21) (by kernel_rfl) 11 [(18,Sp.is (.slice ((some ⟨A,0,none⟩)) ks.length ks.length)),(19,Sp.is (.int .i64 ((i:Int)))),(20,Sp.is (pt ABY)),(21,Sp.is (AP x.o)),(22,Sp.is (pk ABY 32)),(23,Sp.is (pk ABY 32)),(24,Sp.is (VK.s x)),(25,Sp.cl w21.heap.size x.l),(26,Sp.ct w21.heap.size x.l),(27,Sp.ck w21.heap.size x.o x.l),(28,Sp.is (pk ((bO ((some ⟨A,0,none⟩)))) (oO ((some ⟨A,0,none⟩))+i*33)))] rfl (by kernel_rfl) (by kernel_rfl) (by kernel_rfl) [] (by kernel_rfl)
    ⟨ym r5,ym r5,yf r6 (fun _=>by kernel_rfl),yp (i:=0) r6 (CD x.o x.ho.1) Rq rfl rfl,yf r6 (fun _=>by kernel_rfl),yf r6 (fun _=>by kernel_rfl),yp (i:=1) r6 (AGK (VK.s x) rfl) Rq rfl (by simp[AJ,AU,x.ho.1]),Ae [VK.s x] Tryz.func114 (by kernel_rfl) rq4 ⟨(oy rfl rfl),ALu⟩ (AEo (hr.kt hi hx_x)),Mm rfl rfl trivial rfl (fun W _ av h=>match av,h with|[u],⟨h1,_⟩=>AJx h1),Mm rfl rfl trivial rfl (fun W _ av h=>match av,h with|[u,t],⟨h1,h2,_⟩=>AEW x.ho h1 h2),BV rq8 (fun w=>Ce Tryz.underlying34 (by kernel_rfl) (Sl.of_own ow) (by omega) (rfl) w),ALu⟩ trivial
    [] (by kernel_rfl) trivial ⟨.inl rfl,.inl rfl,.inl rfl,.inl rfl,.inl rfl,.inl rfl,.inl rfl,.inl rfl,.inl rfl,.inl rfl,.inl rfl,ALu⟩ (by kernel_rfl) fun a22 w22 g22 st22 nd22=>?_
   obtain⟨hn22,hd22,e22_18,e22_19,e22_20,e22_21,e22_22,e22_23,e22_24,e22_25,e22_26,e22_27,e22_28,e22_4,e22_5,e22_15,e22_16,e22_17,e22_14,e22_13,e22_10,e22_11,e22_12,e22_3,e22_2,e22_1,e22_0,e22_9,-⟩:=st22
   obtain⟨y,e22_27q,hyo,hyl,rt,frB⟩:=e22_27
   have HG0:=HG
   have AAO:=CK frB Ad
   have AAP:=CK frB CX
   have Xx:=CK frB Rq
   have ap_rt_ow:=AK0 (Own.ltS ow) frB
   replace ow:=ow.kn g22
   have Cw:Sv 33 [] [(4,_),(5,_),(15,_),(16,_),(17,_),(14,_),(13,_),(10,_),(11,_),(12,_),(3,_),(2,_),(1,_),(0,_),(9,_),(27,_),(28,_)] a22:=⟨hn22,hd22,e22_4,e22_5,e22_15,e22_16,e22_17,e22_14,e22_13,e22_10,e22_11,e22_12,e22_3,e22_2,e22_1,e22_0,e22_9,e22_27q,e22_28,ALu⟩
   refine KV (c:=Ag) (el:=y) Cw rfl rfl rfl rfl rfl rfl rfl (VN y) ow C7 (by decide) (by first|omega|(simp only[List.length_set];omega)) rfl fun w23 g23 h23=>?_
   replace Ad:=AF g23 (AC g22 Ad) (fun e=>Iz _ (Ct (j:=i) ow (by omega) rfl) (Option.some.inj e).symm)
   replace CX:=AF g23 (AC g22 CX) (fun e=>I0 _ (Ct (j:=i) ow (by omega) rfl) (Option.some.inj e).symm)
   replace hr:=(hr.kn g22).offR g23 (fun k hk e=>ap_hr_ow k hk (Ct (j:=i) ow (by omega) e))
   replace kr:=(((kr.kn g19).offR g21 (AV QA)).kn g22).offR g23 (fun k hk e=>ap_kr_ow k hk (Ct (j:=i) ow (by omega) e))
   replace rt:=rt.offR g23 (fun k hk e=>ap_rt_ow k hk (Ct (j:=i) ow (by omega) e))
   replace HG:=Bp (AA HG g22) g23 fun k e=>lo_ow k (Ct (j:=i) ow (by omega) e)
   refine AE ?_
   have kr2:=KsT.set kr (x:=y) rt i
   have Xy:∀k,DU (ms.set i y) k→k≠CO:=fun k hk=>(Ep hk).elim (Kk k) (AAO k)
   have Xz:∀k,DU (ms.set i y) k→k≠PW:=fun k hk=>(Ep hk).elim (Kl k) (AAP k)
   have AGw:∀k,DU (ms.set i y) k→k≠ABY:=fun k hk=>(Ep hk).elim (QA k) (Xx k)
   have ap_kr2_ow:∀k,DU (ms.set i y) k→¬Bq (.slice ((some ⟨A,0,none⟩)) ks.length ks.length) k:=fun k hk=>(Ep hk).elim (ap_kr_ow k) (ap_rt_ow k)
   refine y16 _ _ ?_
   refine k15 _ _ ?_
   refine ALn ?_
   refine AI Cw 1 [(29,.int .i64 (((i+1:Nat):Int)))]
    ⟨CQ r6 (fun _=>DV (by rw[BG (by omega) (by omega)];omega)),ALu⟩ fun a24 w24 g24 CI=>?_
   refine AI (CI.dl [13]) 1 [(13,.int .i64 (((i+1:Nat):Int)))]
    ⟨ym r5,ALu⟩ fun a25 w25 g25 DY=>?_
   have Lb:=AA g24 g25
   refine AE ?_
   replace Ad:=AC Lb Ad
   replace CX:=AC Lb CX
   replace hr:=hr.kn Lb
   replace ow:=h23.kn Lb
   replace kr2:=kr2.kn Lb
   replace HG:=AA HG Lb
   exact⟨⟨i+1,ms.set i y,by omega,by rw[List.length_set];exact hms,AGk hms hi hx_x hyo hyl hp,fun k hk=>(Ep hk).elim (hfr k) fun h=>Nat.le_trans HG0.size (frB k h),⟨DY.1,DY.2.1,DY.2.2.1,(AH DY).2.2.1,(AH DY).2.2.2.1,(AH DY).2.2.2.2.1,(AH DY).2.2.2.2.2.1,(AH DY).2.2.2.2.2.2.1,(AH DY).2.2.2.2.2.2.2.1,(AH (AH DY)).1,(AH (AH DY)).2.1,ALu⟩,HG,Ad,CX,hr,ow,kr2,Iz,I0,ap_hr_ow,ap_kr2_ow,lo_ow,Xy,Xz⟩,by rw[show _=_ from DY.2.2.1,show _=_ from CV.2.2.1];simp[intOf];omega⟩
 · have hall:=AIl hms hi hp
   refine ALn ?_
   refine AI CV 1 [(14,.bool false)]
    ⟨Hc r7 (fun _=>Bv (decide_eq_false (by omega))),ALu⟩ fun a26 w26 g26 Cj=>?_
   refine AE ?_
   refine k12 _ _ ?_
   refine ALo fun K27 k27=>?_
   refine Az Cj rfl rfl ?_
   refine wp_exit ?_
   repeat refine CW ?_
   refine x10 _ _ ?_
   refine k7 _ _ ?_
   refine ALo fun K28 k28=>?_
   refine ALn ?_
   refine AI Cj 2 [(30,.slice ((some ⟨A,0,none⟩)) ks.length ks.length),(31,pk CO 64)]
    ⟨ym r5,yf r6 (fun _=>by kernel_rfl),ALu⟩ fun a29 w29 g29 CR=>?_
   have Gu:=AA g26 g29
   refine NB (L:=[bv sa,bv po,[.slice ao ks.length cap]]) (i:=2) CR r7 (Eb (.slice ((some ⟨A,0,none⟩)) ks.length ks.length) rfl) (AC Gu Ad) rfl (by simp[AJ,AU,hsa.1,hpo.1]) rfl fun w30 g30 h30=>?_
   replace CX:=Al Gu g30 CX VY
   replace Ad:=h30
   refine AE ?_
   refine k28 _ _ ?_
   refine ALo fun K31 k31=>?_
   refine ALn ?_
   refine AI CR 1 [(32,Ao sa po (.slice ((some ⟨A,0,none⟩)) ks.length ks.length))]
    ⟨yl r6 (BX hsa hpo (.slice ((some ⟨A,0,none⟩)) ks.length ks.length) rfl) Ad,ALu⟩ fun a32 w32 g32 Cr=>?_
   refine As Cr r7 (BX hsa hpo (.slice ((some ⟨A,0,none⟩)) ks.length ks.length) rfl) (AC g32 CX) (by first|rfl|simp[Ag,AJ,AU,hsa.1,hpo.1]) fun w33 g33 h33=>?_
   replace ow:=(((ow.kn Gu).offR g30 (AV Iz)).kn g32).offR g33 (AV I0)
   replace kr:=(((kr.kn Gu).offR g30 (AV Kk)).kn g32).offR g33 (AV Kl)
   replace HG:=AD (AA (AD (AA HG Gu) g30 AGv) g32) g33 Kj
   replace CX:=h33
   refine AE ?_
   refine k31 _ _ ?_
   refine ALr ?_
   repeat refine AL ?_
   refine BH (fn:=Tryz.f72) Cr (FG (p:=2) Tryz.results72 Cr rfl rfl (BX hsa hpo (.slice ((some ⟨A,0,none⟩)) ks.length ks.length) rfl) CX) ?_
   exact⟨A,ms,rfl,hall,ow,kr,lo_ow _ rfl,fun k hk=>⟨hfr k hk,fun e=>ap_kr_ow k hk (e▸rfl)⟩,HG⟩
def TagV (w:World) (k:Nat):Prop:=TagB w k∨∃c fr,w.heap[k]?=some (.cells c 58 fr)
theorem TagV.keep {w w':World} {k:Nat} (h:TagV w k) {row:Option Nat} (g:w.grownBy w' row) (hb:row≠some k):TagV w' k:=h.imp (·.keep g hb) fun⟨c,fr,h1⟩=>⟨c,fr,AF g h1 fun e=>hb e.symm⟩
def VRes (w w':World) (r:VV×Int) (fp:Nat→Prop) (e:Ending):Prop:=∃ao cap ks,e=.returned (.tuple #[Ao r.1.2.1 r.1.2.2 (.slice ao ks.length cap),.int .i64 r.2])∧ks.map VK.p=r.1.1∧RdK w' (.slice ao ks.length cap) ks∧(∀k,KX (.slice ao ks.length cap) ks k→fp k∨TagV w' k)∧w.grownBy w' none
theorem VRes.zero {w w':World} {r:VV×Int} {fp:Nat→Prop} {c:Int} (hr:r=(OO,c)) (h:w.grownBy w' none):VRes w w' r fp (.returned (.tuple #[Ao AQ AQ (.slice none 0 0),.int .i64 c])):=by
 subst hr
 exact⟨none,0,[],rfl,rfl,RdK.nil w',fun k hk=>(OH k hk).elim,h⟩
theorem VRes.mk2 {w w':World} {r:VV×Int} {fp:Nat→Prop} {P:List VP} {sa po:List Nat} {c:Int} {ao:Option Addr} {n cap:Nat} {ks:List VK} (hr:r=((P,sa,po),c)) (hp:ks.map VK.p=P) (ho:Own w' 58 33 (.slice ao n cap) n (ks.flatMap Ag)) (hk:KsR w' ks) (h2:∀k,DU ks k→fp k∨TagB w' k)
  (h:w.grownBy w' none):VRes w w' r fp (.returned (.tuple #[Ao sa po (.slice ao n cap),.int .i64 c])):=by
 obtain rfl:=Own.rdk ho
 subst hr
 exact⟨ao,cap,ks,rfl,hp,⟨ho.sb,hk⟩,fun k hk=>hk.elim (fun h=>.inr (.inr (Own.block ho h))) (fun h=>(h2 k h).imp id .inl),h⟩
theorem VRes.mk {w w':World} {r:VV×Int} {fp:Nat→Prop} {P:List VP} {sa po:List Nat} {c:Int} {ao:Option Addr} {n cap:Nat} {ks:List VK} (hr:r=((P,sa,po),c)) (hp:ks.map VK.p=P) (ho:Own w' 58 33 (.slice ao n cap) n (ks.flatMap Ag)) (hk:KsT w' ks)
 (h:w.grownBy w' none):VRes w w' r fp (.returned (.tuple #[Ao sa po (.slice ao n cap),.int .i64 c])):=VRes.mk2 hr hp ho hk.1 (fun k hk'=>.inr (hk.2 k hk')) h
theorem VRes.same {w w':World} {r:VV×Int} {fp:Nat→Prop} {P:List VP} {sa po:List Nat} {c:Int} {ao:Option Addr} {cap:Nat} {ks:List VK} (hr:r=((P,sa,po),c)) (hp:ks.map VK.p=P) (ho:RdK w' (.slice ao ks.length cap) ks)
  (h1:∀k,KX (.slice ao ks.length cap) ks k→fp k) (h:w.grownBy w' none):VRes w w' r fp (.returned (.tuple #[Ao sa po (.slice ao ks.length cap),.int .i64 c])):=by
 subst hr
 exact⟨ao,cap,ks,rfl,hp,ho,fun k hk=>.inl (h1 k hk),h⟩
def Sp.cln (B:Nat) (sa po:List Nat) (n:Nat) (P:List VP):Sp:=⟨fun w v=>∃(A:Nat) (ms:List VK),v=Ao sa po (.slice (some ⟨A,0,none⟩) n n)∧ms.map VK.p=P∧Own w 58 33 (.slice (some ⟨A,0,none⟩) n n) n (ms.flatMap Ag)∧KsT w ms∧B≤A∧∀k,DU ms k→B≤k∧k≠A,
 fun _ _ _ hg ⟨A,ms,h1,h2,h3,h4,h5,h6⟩=>⟨A,ms,h1,h2,h3.kn hg,h4.kn hg,h5,h6⟩⟩
theorem Ui {w0:World} {ks:List VK} {ao:Option Addr} {cap:Nat} {sa po:List Nat} (hsa:Dg sa) (hpo:Dg po) (hr:RdK w0 (.slice ao ks.length cap) ks) (h64:ks.length≤64):∀W,w0.grownBy W none→Calls Tryz.prog 72 #[Ao sa po (.slice ao ks.length cap)] W fun e W'=>∃v,e=.returned v∧W.grownBy W' none∧(Sp.cln w0.heap.size sa po ks.length (ks.map VK.p)).on W' v:=fun W g =>
 (Xu ks ao cap sa po hsa hpo W (hr.kn g) h64).mono fun e W' ⟨A,ms,h1,h2,h3,h4,h5,h6,h7⟩=>⟨_,h1,h7,A,ms,rfl,h2,h3,h4,Nat.le_trans g.size h5,fun k hk=>⟨Nat.le_trans g.size (h6 k hk).1,(h6 k hk).2⟩⟩
theorem KsT.ins {w:World} {ms:List VK} (h:KsT w ms) {x:VK} (hx:RdTg w x.s x.l) (i:Nat):KsT w (ms.take i++x::ms.drop i):=by
 have hh:∀k,k∈ms.take i++x::ms.drop i→k∈ms∨k=x:=fun k hk=>by
  rcases List.mem_append.1 hk with hk|hk
  · exact .inl (List.mem_of_mem_take hk)
  · rcases List.mem_cons.1 hk with rfl|hk
    · exact .inr rfl
    · exact .inl (List.mem_of_mem_drop hk)
 exact⟨fun k hk=>(hh k hk).elim (h.1 k) fun e=>e▸hx.1,fun b ⟨k,hk,hb⟩=>(hh k hk).elim (fun h1=>h.2 b ⟨k,h1,hb⟩) fun e=>hx.2 b (e▸hb)⟩
def Sp.insr (B n:Nat) (ks:List VK):Sp:=⟨fun w v=>∃ao cap,v=.slice ao n cap∧Own w 58 33 (.slice ao n cap) n (ks.flatMap Ag)∧∀k,Bq (.slice ao n cap) k→B≤k,fun _ _ _ hg ⟨ao,cap,h1,h2,h3⟩=>⟨ao,cap,h1,h2.kn hg,h3⟩⟩
theorem AIt {w0:World} {ms:List VK} {x:VK} {i A V n:Nat} (hn:n=ms.length) (hown:Own w0 58 33 (.slice (some ⟨A,0,none⟩) n n) n (ms.flatMap Ag)) (hv:w0.heap[V]?=some (.cells (Ag x).toArray 58 (0,0))) (hi:i≤n) (h64:n≤64) :
  ∀W,w0.grownBy W none→Calls Tryz.prog 83 #[.slice (some ⟨A,0,none⟩) n n,.int .i64 (i:Int),.slice (some ⟨V,0,none⟩) 1 1] W fun e W'=>∃v,e=.returned v∧W.grownBy W' none∧(Sp.insr w0.heap.size (n+1) (ms.take i++x::ms.drop i)).on W' v:=fun W g=>by
 subst hn
 exact(Xs ms x i A V W (hown.kn g) (AF g hv (by simp)) hi (by omega)).mono fun e W' ⟨v,h1,h2,h3,h4⟩=>by
  obtain⟨ao,cap,rfl,_⟩:=(Sl.of_own h2).shape
  exact⟨_,h1,h3,ao,cap,rfl,h2,fun k hk=>Nat.le_trans g.size (h4 k hk)⟩
theorem AGx {ms:List VK} {P:List VP} {o:List Nat} {T:List Nd} {x:VK} {i:Nat} (h:ms.map VK.p=P) (hi:pos P o=i) (ho:x.o=o) (hl:x.l=T):(ms.take i++x::ms.drop i).map VK.p=NT P o T:=by
 unfold NT
 rw[hi,List.map_append,List.map_cons,List.map_take,List.map_drop,h]
 simp[VK.p,ho,hl]
theorem X5 {w:World} {ks ms:List VK} {A n:Nat} {sa po o:List Nat} (hsa:Dg sa) (hpo:Dg po) (ho:Dg o) (hm:ms.map VK.p=ks.map VK.p) (ow:Own w 58 33 (.slice (some ⟨A,0,none⟩) n n) n (ms.flatMap Ag)) (kr:KsR w ms) (hv:CH (ks.map VK.p)=true) {b:Bool} (hb:IT (ks.map VK.p) o=b) {i:Nat} (hi:pos (ks.map VK.p) o=i) :
  Calls Tryz.prog 71 #[Ao sa po (.slice (some ⟨A,0,none⟩) n n),AP o] w fun e w'=>e=.returned (.tuple #[.int .i64 (i:Int),.bool b])∧w.grownBy w' none:=by
 obtain rfl:=Own.rdk ow
 rw[←hm] at hv hb hi
 exact Rp hsa hpo ho ⟨ow.sb,kr⟩ hv hb hi
theorem AEq (ks:List VK) (ao:Option Addr) (cap:Nat) (sa po:List Nat) (hsa:Dg sa) (hpo:Dg po) (o:List Nat) (ho:Dg o) (T:List Nd) (hT:tree (kd 275 po) []=T) (w:World) (hr:RdK w (.slice ao ks.length cap) ks) :
   Calls Tryz.prog 36 #[Ao sa po (.slice ao ks.length cap),AP o] w fun e w'=>VRes w w' (M1 (ks.map VK.p,sa,po) o T (kd 276 po)) (fun _=>False) e:=by
 have hTl:0<T.length:=by rw[←hT,Ls];exact Nat.zero_lt_one
 refine Dv Tryz.func36 rfl Tryz.ntmps36 rfl fun a0 sv0=>?_
 have HG:=World.grownBy.refl w none
 replace sv0:Sv 47 [] [(0,Ao sa po (.slice ao ks.length cap)),(1,AP o)] a0:=sv0
 refine ALo fun K1 k1=>?_
 refine ALn ?_
 refine Bn sv0 r6 (BX hsa hpo (.slice ao ks.length cap) rfl) fun a2 w2 Cp Ds g2 z2 AK sv2=>?_
 have GR:=Bt HG Ds
 refine Bn sv2 r6 (CD o ho.1) fun a3 w3 Cc Fl g3 z3 AN sv3=>?_
 have Km:=Ar AK Fl
 replace AK:=AC g3 AK
 replace hr:=(hr.kn g2).kn g3
 replace HG:=AA (AA HG g2) g3
 refine Av (T:=36) (Z:=([bv AQ,bv AQ,[.slice none 0 0]].flatten)) sv3 rfl rfl rfl (fun a w=>by kernel_rfl) fun a4 w4 Gg CS g4 z4 AR sv4=>?_
 have BZ:=Ar AK CS
 have Bl:=Ar AN CS
 have CY:=Bt HG CS
 have CJ:=A1 (hr.lt) CS
 replace AK:=AC g4 AK
 replace AN:=AC g4 AN
 replace hr:=hr.kn g4
 replace HG:=AA HG g4
 refine Av (T:=38) (Z:=[.int .i64 0]) sv4 rfl rfl rfl (fun a w=>by kernel_rfl) fun a5 w5 X7 E8 g5 z5 A9 sv5=>?_
 have Cg:=Ar AK E8
 have Cv:=Ar AN E8
 have BI:=Ar AR E8
 have FP:=Bt HG E8
 have FI:=A1 (hr.lt) E8
 replace AK:=AC g5 AK
 replace AN:=AC g5 AN
 replace AR:=AC g5 AR
 replace hr:=hr.kn g5
 replace HG:=AA HG g5
 refine AE ?_
 refine k1 _ _ ?_
 refine ALo fun K6 k6=>?_
 refine ALn ?_
 refine Fu sv5 rfl rfl rfl rfl rfl rfl fun a7 sv7=>?_
 refine Er sv7 rfl (dd:={ target:=.fn (.func 81) #[pt Gg,pt X7],args:=#[] }) rfl (by have e1:=sv7.ev (x:=.tmp 9) rfl rfl;simp[execOp,resolve,Deferred.ofValue,e1];try rfl) fun a8 sv8=>?_
 refine AE ?_
 refine k6 _ _ ?_
 refine ALo fun K9 k9=>?_
 refine ALo fun K10 k10=>?_
 cases hv:CH (ks.map VK.p)
 · refine ALn ?_
   refine AI sv8 3 [(10,Ao sa po (.slice ao ks.length cap)),(11,.bool false),(12,.bool true)]
     ⟨yl r6 (BX hsa hpo (.slice ao ks.length cap) rfl) AK,Ae [Ao sa po (.slice ao ks.length cap)] Tryz.func51 (by kernel_rfl) rq4 ⟨(oy rfl rfl),ALu⟩ (Au fun W g=>Iy hsa hpo (hr.kn g) hv),Cl r6 (fun _=>BJ),ALu⟩ fun a11 w11 g11 CV=>?_
   refine AE ?_
   refine k10 _ _ ?_
   refine Ay CV rfl rfl ?_
   refine ALo fun K12 k12=>?_
   refine ALn ?_
   replace AK:=AC g11 AK
   replace AN:=AC g11 AN
   replace AR:=AC g11 AR
   replace A9:=AC g11 A9
   refine AI CV 1 [(13,Ao AQ AQ (.slice none 0 0))]
     ⟨Ba (vs:=[]) rfl rfl trivial trivial (fun _=>bV0 _) (fun _=>rfl),ALu⟩ fun a13 w13 g13 EC=>?_
   refine As EC r7 (BX AO AO (.slice none 0 0) rfl) (AC g13 AR) (by first|rfl|simp[Ag,AJ,AU,AO.1,AO.1]) fun w14 g14 h14=>?_
   replace A9:=Al g13 g14 A9 BI
   refine As EC r7 (EU 1) A9 rfl fun w15 g15 h15=>?_
   replace AK:=AY g15 (Al g13 g14 AK (Ne.symm BZ)) (Ne.symm Cg)
   replace AN:=AY g15 (Al g13 g14 AN (Ne.symm Bl)) (Ne.symm Cv)
   replace AR:=AY g15 h14 (Ne.symm BI)
   replace hr:=(((hr.kn g11).kn g13).offR g14 (AV CJ)).offR g15 (AV FI)
   replace HG:=AD (AD (AA (AA HG g11) g13) g14 CY) g15 FP
   replace A9:=h15
   refine AE ?_
   refine k12 _ _ ?_
   refine ALr ?_
   repeat refine AL ?_
   refine BU (fn:=Tryz.f36) EC (Bj (p:=4) (q:=5) Tryz.results36 EC rfl rfl rfl rfl (BX AO AO (.slice none 0 0) rfl) (EU 1) AR A9) (Bz Tryz.func81 (by kernel_rfl) rfl _ _) (GI _ _ _) ?_
   exact VRes.zero (by unfold M1;rw[if_neg (by rw[hv];simp)]) HG
 · obtain⟨i,hi⟩:∃i,pos (ks.map VK.p) o=i:=⟨_,rfl⟩
   have h64:ks.length≤64:=by have:=(Et.1 hv).1;simpa using this
   have hin:i≤ks.length:=by rw[←hi];simpa using Rb (ks.map VK.p) o
   refine ALn ?_
   refine AI sv8 3 [(10,Ao sa po (.slice ao ks.length cap)),(11,.bool true),(12,.bool false)]
     ⟨yl r6 (BX hsa hpo (.slice ao ks.length cap) rfl) AK,Ae [Ao sa po (.slice ao ks.length cap)] Tryz.func51 (by kernel_rfl) rq4 ⟨(oy rfl rfl),ALu⟩ (Au fun W g=>Iy hsa hpo (hr.kn g) hv),Cl r6 (fun _=>BJ),ALu⟩ fun a16 w16 g16 Cu=>?_
   refine AE ?_
   refine k10 _ _ ?_
   refine Az Cu rfl rfl ?_
   refine ALs ?_
   refine k9 _ _ ?_
   refine ALo fun K17 k17=>?_
   refine ALn ?_
   replace AK:=AC g16 AK
   replace AR:=AC g16 AR
   replace A9:=AC g16 A9
   replace hr:=hr.kn g16
   refine E6 (Cu.st w16) 2 [(14,Sp.is (Ao sa po (.slice ao ks.length cap))),(15,Sp.cln w16.heap.size sa po ks.length (ks.map VK.p))] rfl (by kernel_rfl) (by kernel_rfl) (by kernel_rfl)
     ⟨yl r6 (BX hsa hpo (.slice ao ks.length cap) rfl) AK,Ae [Ao sa po (.slice ao ks.length cap)] Tryz.func72 (by kernel_rfl) rq4 ⟨(oy rfl rfl),ALu⟩ (Ui hsa hpo hr h64),ALu⟩ fun a18 w18 g18 st18=>?_
   obtain⟨hn18,hd18,e18_14,e18_15,e18_10,e18_11,e18_12,e18_9,e18_5,e18_4,e18_3,e18_2,e18_0,e18_1,-⟩:=st18
   obtain⟨A,ms,e18_15q,hmp,ow,kr,frA,frK⟩:=e18_15
   have fr_ow:∀k,Bq (.slice ((some ⟨A,0,none⟩)) ks.length ks.length) k→w16.heap.size≤k:=fun k hk=>(Option.some.inj hk)▸frA
   have fr_kr:∀k,DU ms k→w16.heap.size≤k:=fun k hk=>(frK k hk).1
   have ap_kr_ow:∀k,DU ms k→¬Bq (.slice ((some ⟨A,0,none⟩)) ks.length ks.length) k:=fun k hk e=>(frK k hk).2 (Option.some.inj e).symm
   have Gv:=CK fr_ow AK
   have Gx:=CK fr_ow AR
   have Nc:=CK fr_ow A9
   have Fp:=CK fr_kr AK
   have Ee:=CK fr_kr AR
   have Nf:=CK fr_kr A9
   replace AK:=AC g18 AK
   have CU:Sv 47 [{ target:=.fn (.func 81) #[pt Gg,pt X7],args:=#[] }] [(10,_),(11,_),(12,_),(9,_),(5,_),(4,_),(3,_),(2,_),(0,_),(1,_),(15,_)] a18:=⟨hn18,hd18,e18_10,e18_11,e18_12,e18_9,e18_5,e18_4,e18_3,e18_2,e18_0,e18_1,e18_15q,ALu⟩
   refine As CU r7 (BX hsa hpo (.slice ((some ⟨A,0,none⟩)) ks.length ks.length) rfl) AK (by first|rfl|simp[Ag,AJ,AU,hsa.1,hpo.1,hsa.1,hpo.1]) fun w19 g19 h19=>?_
   replace AN:=AY g19 (AC g18 (AC g16 AN)) Km
   replace AR:=AY g19 (AC g18 AR) BZ
   replace A9:=AY g19 (AC g18 A9) Cg
   replace ow:=ow.offR g19 (AV Gv)
   replace kr:=kr.offR g19 (AV Fp)
   replace HG:=AD (AA (AA HG g16) g18) g19 GR
   replace AK:=h19
   refine AE ?_
   refine k17 _ _ ?_
   refine ALo fun K20 k20=>?_
   have hml:ks.length=ms.length:=Own.rdk ow
   cases hf:IT (ks.map VK.p) o
   · refine ALn ?_
     refine AI CU 6 [(17,Ao sa po (.slice ((some ⟨A,0,none⟩)) ks.length ks.length)),(18,AP o),(19,.tuple #[.int .i64 ((i:Int)),.bool false]),(16,.tuple #[.int .i64 ((i:Int)),.bool false]),(20,.int .i64 ((i:Int))),(21,.bool false)]
       ⟨yl r6 (BX hsa hpo (.slice ((some ⟨A,0,none⟩)) ks.length ks.length) rfl) AK,yl r6 (CD o ho.1) AN,Ae [Ao sa po (.slice ((some ⟨A,0,none⟩)) ks.length ks.length),AP o] Tryz.func71 (by kernel_rfl) rq4 ⟨(oy rfl rfl),(oy rfl rfl),ALu⟩ (Au fun W g=>X5 hsa hpo ho hmp (ow.kn g) (kr.1.kn g) hv hf hi),ym r5,BC rq4 (fun _ _ h=>⟨_,_,h,rfl,rfl⟩),BC rq4 (fun _ _ h=>⟨_,_,h,rfl,rfl⟩),ALu⟩ fun a21 w21 g21 Da=>?_
     refine Aa (v:=.int .i64 ((i:Int))) Da r6 fun a22 Cw=>?_
     refine Aa (v:=.bool false) Cw r6 fun a23 Cz=>?_
     have CI:Sv _ _ [_,_,_,_,_,_,_,_,_,_,_,_,_] _:=Cz.dl [17,18,19,16,20,21]
     refine AE ?_
     refine k20 _ _ ?_
     refine ALo fun K25 k25=>?_
     refine ALo fun K26 k26=>?_
     refine ALn ?_
     refine AI CI 1 [(22,.bool false)]
       ⟨ym r5,ALu⟩ fun a27 w27 g27 Jr=>?_
     have AAQ:=AA g21 g27
     refine AE ?_
     refine k26 _ _ ?_
     refine Az Jr rfl rfl ?_
     refine ALs ?_
     refine k25 _ _ ?_
     refine ALo fun K28 k28=>?_
     refine ALo fun K29 k29=>?_
     replace AK:=AC AAQ AK
     replace AN:=AC AAQ AN
     replace AR:=AC AAQ AR
     replace A9:=AC AAQ A9
     replace ow:=ow.kn AAQ
     replace kr:=kr.kn AAQ
     replace HG:=AA HG AAQ
     by_cases hfull:64≤ks.length
     · refine ALn ?_
       refine AI Jr 4 [(24,pk Cp 64),(25,.slice ((some ⟨A,0,none⟩)) ks.length ks.length),(26,.int .i64 ((ks.length:Nat))),(27,.bool true)]
        ⟨yf r6 (fun _=>by kernel_rfl),yp (i:=2) r6 (Eb (.slice ((some ⟨A,0,none⟩)) ks.length ks.length) rfl) AK rfl (by simp[AJ,AU,hsa.1,hpo.1]),CB (Tryz.underlying34) rfl rfl trivial (oy rfl rfl) (fun _=>rfl),CQ r6 (fun _=>FY (decide_eq_true (by omega))),ALu⟩ fun a30 w30 g30 Fd=>?_
       refine AE ?_
       refine k29 _ _ ?_
       refine Ay Fd rfl rfl ?_
       refine ALo fun K31 k31=>?_
       refine ALn ?_
       replace AK:=AC g30 AK
       replace AN:=AC g30 AN
       replace AR:=AC g30 AR
       replace A9:=AC g30 A9
       refine AI Fd 1 [(28,Ao AQ AQ (.slice none 0 0))]
        ⟨Ba (vs:=[]) rfl rfl trivial trivial (fun _=>bV0 _) (fun _=>rfl),ALu⟩ fun a32 w32 g32 Cr=>?_
       refine As Cr r7 (BX AO AO (.slice none 0 0) rfl) (AC g32 AR) (by first|rfl|simp[Ag,AJ,AU,AO.1,AO.1]) fun w33 g33 h33=>?_
       replace A9:=Al g32 g33 A9 BI
       refine As Cr r7 (EU 8) A9 rfl fun w34 g34 h34=>?_
       replace AK:=AY g34 (Al g32 g33 AK (Ne.symm BZ)) (Ne.symm Cg)
       replace AN:=AY g34 (Al g32 g33 AN (Ne.symm Bl)) (Ne.symm Cv)
       replace AR:=AY g34 h33 (Ne.symm BI)
       replace ow:=(((ow.kn g30).kn g32).offR g33 (AV Gx)).offR g34 (AV Nc)
       replace kr:=(((kr.kn g30).kn g32).offR g33 (AV Ee)).offR g34 (AV Nf)
       replace HG:=AD (AD (AA (AA HG g30) g32) g33 CY) g34 FP
       replace A9:=h34
       refine AE ?_
       refine k31 _ _ ?_
       refine ALr ?_
       repeat refine AL ?_
       refine BU (fn:=Tryz.f36) Cr (Bj (p:=4) (q:=5) Tryz.results36 Cr rfl rfl rfl rfl (BX AO AO (.slice none 0 0) rfl) (EU 8) AR A9) (Bz Tryz.func81 (by kernel_rfl) rfl _ _) (GI _ _ _) ?_
       exact VRes.zero (by unfold M1;rw[if_pos hv,if_neg (by rw[hf];simp),if_pos (by simpa using hfull)]) HG
     · refine ALn ?_
       refine AI Jr 4 [(24,pk Cp 64),(25,.slice ((some ⟨A,0,none⟩)) ks.length ks.length),(26,.int .i64 ((ks.length:Nat))),(27,.bool false)]
        ⟨yf r6 (fun _=>by kernel_rfl),yp (i:=2) r6 (Eb (.slice ((some ⟨A,0,none⟩)) ks.length ks.length) rfl) AK rfl (by simp[AJ,AU,hsa.1,hpo.1]),CB (Tryz.underlying34) rfl rfl trivial (oy rfl rfl) (fun _=>rfl),CQ r6 (fun _=>FY (decide_eq_false (by omega))),ALu⟩ fun a35 w35 g35 Js=>?_
       refine AE ?_
       refine k29 _ _ ?_
       refine Az Js rfl rfl ?_
       refine ALs ?_
       refine k28 _ _ ?_
       refine ALo fun K36 k36=>?_
       replace AK:=AC g35 AK
       replace AN:=AC g35 AN
       replace AR:=AC g35 AR
       replace A9:=AC g35 A9
       replace ow:=ow.kn g35
       replace kr:=kr.kn g35
       replace HG:=AA HG g35
       refine DZ (Js.st w35) (by kernel_rfl) 7 [(29,Sp.is (AP o)),(30,Sp.is (pk Cp 32)),(31,Sp.is (AP po)),(32,Sp.is (AP ((kd 275 po)))),(33,Sp.ct w35.heap.size T),(34,Sp.ck w35.heap.size o T),(8,Sp.new w35.heap.size (([bv AQ,[.slice none 0 0]].flatten)) 58)] rfl (by kernel_rfl) (by kernel_rfl) (by kernel_rfl) [] (by kernel_rfl)
        ⟨yl r6 (CD o ho.1) AN,yf r6 (fun _=>by kernel_rfl),yp (i:=1) r6 (CD po hpo.1) AK rfl (by simp[AJ,AU,hsa.1,hpo.1]),Ae [.int .u64 275,AP po,.slice none 0 0] Tryz.func66 (by kernel_rfl) rq4 ⟨rfl,(oy rfl rfl),rfl,ALu⟩ (Au fun W g=>OK (n:=275) (by decide) rfl hpo W),Ae [AP ((kd 275 po))] Tryz.func82 (by kernel_rfl) rq4 ⟨(oy rfl rfl),ALu⟩ (AGl (Be _ _) hT),Mm rfl rfl trivial rfl (fun W _ av h=>match av,h with|[u,t],⟨h1,h2,_⟩=>AEW ho h1 h2),L3 rfl trivial (Nat.le_refl _) (fun a w=>by kernel_rfl) (fun _ _ h=>h),ALu⟩ trivial
        [8] (by kernel_rfl) ⟨Sp.new_lt,ALu⟩ ⟨.inl rfl,.inl rfl,.inl rfl,.inl rfl,.inl rfl,.inl rfl,.inr ⟨rfl,(([bv AQ,[.slice none 0 0]].flatten)).toArray,58,fun a w=>by kernel_rfl⟩,ALu⟩ (by kernel_rfl) fun a37 w37 g37 st37 nd37=>?_
       obtain⟨hn37,hd37,e37_29,e37_30,e37_31,e37_32,e37_33,e37_34,e37_8,e37_24,e37_25,e37_26,e37_27,e37_22,e37_7,e37_6,e37_10,e37_11,e37_12,e37_9,e37_5,e37_4,e37_3,e37_2,e37_0,e37_1,e37_15,-⟩:=st37
       obtain⟨y,e37_34q,hyo,hyl,rt,frB⟩:=e37_34
       obtain⟨AJ3,e37_8q,I1,Rr⟩:=e37_8
       have TX:=Gj AK I1
       have TZ:=Gj AN I1
       have Ta:=Gj AR I1
       have Tc:=Gj A9 I1
       have AEr:=Ua HG I1
       have X9:=Ly (Own.ltS ow) I1
       have YL:=Ly (kr.lt) I1
       have Kn:=CK frB AK
       have I2:=CK frB AR
       have AAR:=CK frB A9
       have YM:=rt.2.ap Rr (by decide)
       have Jt:Sv 47 [{ target:=.fn (.func 81) #[pt Gg,pt X7],args:=#[] }] [(24,_),(25,_),(26,_),(27,_),(22,_),(7,_),(6,_),(10,_),(11,_),(12,_),(9,_),(5,_),(4,_),(3,_),(2,_),(0,_),(1,_),(15,_),(34,_),(8,_)] a37:=⟨hn37,hd37,e37_24,e37_25,e37_26,e37_27,e37_22,e37_7,e37_6,e37_10,e37_11,e37_12,e37_9,e37_5,e37_4,e37_3,e37_2,e37_0,e37_1,e37_15,e37_34q,e37_8q,ALu⟩
       refine As Jt r7 (VN y) Rr (by first|rfl|simp[Ag,AJ,AU,y.ho.1]) fun w38 g38 h38=>?_
       replace AK:=AY g38 (AC g37 AK) (Ne.symm TX)
       replace AN:=AY g38 (AC g37 AN) (Ne.symm TZ)
       replace AR:=AY g38 (AC g37 AR) (Ne.symm Ta)
       replace A9:=AY g38 (AC g37 A9) (Ne.symm Tc)
       replace HG:=AD (AA HG g37) g38 AEr
       replace Rr:=h38
       refine AE ?_
       refine k36 _ _ ?_
       refine ALo fun K39 k39=>?_
       refine ALn ?_
       refine E6 (Jt.st w38) 5 [(35,Sp.is (pk Cp 64)),(36,Sp.is (.slice ((some ⟨A,0,none⟩)) ks.length ks.length)),(37,Sp.is (.int .i64 ((i:Int)))),(38,Sp.is (IA y)),(39,Sp.lit1 w38.heap.size 58 (Ag y))] rfl (by kernel_rfl) (by kernel_rfl) (by kernel_rfl)
        ⟨yf r6 (fun _=>by kernel_rfl),yp (i:=2) r6 (Eb (.slice ((some ⟨A,0,none⟩)) ks.length ks.length) rfl) AK rfl (by simp[AJ,AU,hsa.1,hpo.1]),ym r5,yl r6 (VN y) Rr,Qn rfl rfl trivial (Nat.le_refl _) rfl (fun W hw v h=>match v,h with|_,⟨rfl,_⟩=>⟨Ag y,AJy y W,fun w' _ hh=>⟨_,rfl,hw.size,hh⟩⟩),ALu⟩ fun a40 w40 g40 st40=>?_
       obtain⟨hn40,hd40,e40_35,e40_36,e40_37,e40_38,e40_39,e40_24,e40_25,e40_26,e40_27,e40_22,e40_7,e40_6,e40_10,e40_11,e40_12,e40_9,e40_5,e40_4,e40_3,e40_2,e40_0,e40_1,e40_15,e40_34,e40_8,-⟩:=st40
       obtain⟨V,e40_39q,geV,HV⟩:=e40_39
       have PY:V≠Cp:=Nat.ne_of_gt (Nat.lt_of_lt_of_le (Array.getElem?_eq_some_iff.1 AK).1 geV)
       have ACp:V≠Cc:=Nat.ne_of_gt (Nat.lt_of_lt_of_le (Array.getElem?_eq_some_iff.1 AN).1 geV)
       have Uj:V≠Gg:=Nat.ne_of_gt (Nat.lt_of_lt_of_le (Array.getElem?_eq_some_iff.1 AR).1 geV)
       have ACq:V≠X7:=Nat.ne_of_gt (Nat.lt_of_lt_of_le (Array.getElem?_eq_some_iff.1 A9).1 geV)
       have AIu:V≠AJ3:=Nat.ne_of_gt (Nat.lt_of_lt_of_le (Array.getElem?_eq_some_iff.1 Rr).1 geV)
       have lo_V:w.heap.size≤V:=Nat.le_trans HG.size geV
       replace AK:=AC g40 AK
       replace AR:=AC g40 AR
       replace A9:=AC g40 A9
       replace ow:=((ow.kn g37).offR g38 (AV X9)).kn g40
       have Lc:Sv 47 [{ target:=.fn (.func 81) #[pt Gg,pt X7],args:=#[] }] [(24,_),(25,_),(26,_),(27,_),(22,_),(7,_),(6,_),(10,_),(11,_),(12,_),(9,_),(5,_),(4,_),(3,_),(2,_),(0,_),(1,_),(15,_),(34,_),(8,_),(36,_),(37,_),(39,_)] a40:=⟨hn40,hd40,e40_24,e40_25,e40_26,e40_27,e40_22,e40_7,e40_6,e40_10,e40_11,e40_12,e40_9,e40_5,e40_4,e40_3,e40_2,e40_0,e40_1,e40_15,e40_34,e40_8,e40_36,e40_37,e40_39q,ALu⟩
       refine E6 (Lc.st w40) 2 [(40,Sp.insr w40.heap.size (ks.length+1) (ms.take i++y::ms.drop i)),(41,Sp.is (pk Cp 64))] rfl (by kernel_rfl) (by kernel_rfl) (by kernel_rfl)
        ⟨Ae [.slice ((some ⟨A,0,none⟩)) ks.length ks.length,.int .i64 ((i:Int)),.slice ((some ⟨V,0,none⟩)) 1 1] Tryz.func83 (by kernel_rfl) rq4 ⟨(oy rfl rfl),(oy rfl rfl),(oy rfl rfl),ALu⟩ (AIt hml ow HV hin h64),yf r6 (fun _=>by kernel_rfl),ALu⟩ fun a41 w41 g41 st41=>?_
       obtain⟨hn41,hd41,e41_40,e41_41,e41_24,e41_25,e41_26,e41_27,e41_22,e41_7,e41_6,e41_10,e41_11,e41_12,e41_9,e41_5,e41_4,e41_3,e41_2,e41_0,e41_1,e41_15,e41_34,e41_8,e41_36,e41_37,e41_39,-⟩:=st41
       obtain⟨ai,ci,e41_40q,oi,fri⟩:=e41_40
       have Rs:=CK fri AK
       have AAS:=CK fri AR
       have AAT:=CK fri A9
       replace AK:=AC g41 AK
       have Kh:Sv 47 [{ target:=.fn (.func 81) #[pt Gg,pt X7],args:=#[] }] [(24,_),(25,_),(26,_),(27,_),(22,_),(7,_),(6,_),(10,_),(11,_),(12,_),(9,_),(5,_),(4,_),(3,_),(2,_),(0,_),(1,_),(15,_),(34,_),(8,_),(36,_),(37,_),(39,_),(40,_),(41,_)] a41:=⟨hn41,hd41,e41_24,e41_25,e41_26,e41_27,e41_22,e41_7,e41_6,e41_10,e41_11,e41_12,e41_9,e41_5,e41_4,e41_3,e41_2,e41_0,e41_1,e41_15,e41_34,e41_8,e41_36,e41_37,e41_39,e41_40q,e41_41,ALu⟩
       refine NB (L:=[bv sa,bv po,[.slice ((some ⟨A,0,none⟩)) ks.length ks.length]]) (i:=2) Kh r7 (Eb (.slice ai (ks.length+1) ci) rfl) AK rfl (by simp[AJ,AU,hsa.1,hpo.1]) rfl fun w42 g42 h42=>?_
       replace AN:=AY g42 (AC g41 (AC g40 AN)) Km
       replace AR:=AY g42 (AC g41 AR) BZ
       replace A9:=AY g42 (AC g41 A9) Cg
       replace HV:=AY g42 (AC g41 HV) PY
       replace AK:=h42
       have Kg:Sv _ _ [_,_,_,_,_,_,_,_,_,_,_,_,_,_,_,_,_,_,_] _:=Kh.dl [6,36,37,39,40,41]
       refine AE ?_
       refine k39 _ _ ?_
       refine ALo fun K44 k44=>?_
       refine ALn ?_
       refine AI Kg 4 [(42,pk Cp 32),(43,AP po),(44,AP ((kd 276 po))),(45,pk Cp 32)]
        ⟨yf r6 (fun _=>by kernel_rfl),yp (i:=1) r6 (CD po hpo.1) AK rfl (by simp[AJ,AU,hsa.1,hpo.1]),Ae [.int .u64 276,AP po,.slice none 0 0] Tryz.func66 (by kernel_rfl) rq4 ⟨rfl,(oy rfl rfl),rfl,ALu⟩ (Au fun W g=>OK (n:=276) (by decide) rfl hpo W),yf r6 (fun _=>by kernel_rfl),ALu⟩ fun a45 w45 g45 CL=>?_
       refine NB (L:=[bv sa,bv po,[.slice ai (ks.length+1) ci]]) (i:=1) CL r7 (CD ((kd 276 po)) (Be _ _).1) (AC g45 AK) rfl (by simp[AJ,AU,hsa.1,hpo.1]) (ABX hpo (Be _ _)) fun w46 g46 h46=>?_
       replace AR:=Al g45 g46 AR BZ
       replace AK:=h46
       have Ld:Sv _ _ [_,_,_,_,_,_,_,_,_,_,_,_,_,_,_,_,_,_,_] _:=CL.dl [42,43,44,45]
       refine AE ?_
       refine k44 _ _ ?_
       refine ALo fun K48 k48=>?_
       refine ALn ?_
       refine AI Ld 1 [(46,Ao sa ((kd 276 po)) (.slice ai (ks.length+1) ci))]
        ⟨yl r6 (BX hsa (Be _ _) (.slice ai (ks.length+1) ci) rfl) AK,ALu⟩ fun a49 w49 g49 GL=>?_
       refine As GL r7 (BX hsa (Be _ _) (.slice ai (ks.length+1) ci) rfl) (AC g49 AR) (by first|rfl|simp[Ag,AJ,AU,hsa.1,(Be _ _).1]) fun w50 g50 h50=>?_
       replace A9:=Al g49 g50 (Al g45 g46 A9 Cg) BI
       refine As GL r7 (EU 0) A9 rfl fun w51 g51 h51=>?_
       replace AK:=AY g51 (Al g49 g50 AK (Ne.symm BZ)) (Ne.symm Cg)
       replace AN:=AY g51 (Al g49 g50 (Al g45 g46 AN Km) (Ne.symm Bl)) (Ne.symm Cv)
       replace AR:=AY g51 h50 (Ne.symm BI)
       replace HV:=AY g51 (Al g49 g50 (Al g45 g46 HV PY) Uj) ACq
       replace ow:=((((((ow.kn g41).offR g42 (AV Gv)).kn g45).offR g46 (AV Gv)).kn g49).offR g50 (AV Gx)).offR g51 (AV Nc)
       replace kr:=(((((((((kr.kn g37).offR g38 (AV YL)).kn g40).kn g41).offR g42 (AV Fp)).kn g45).offR g46 (AV Fp)).kn g49).offR g50 (AV Ee)).offR g51 (AV Nf)
       replace rt:=((((((((rt.offR g38 (AV YM)).kn g40).kn g41).offR g42 (AV Kn)).kn g45).offR g46 (AV Kn)).kn g49).offR g50 (AV I2)).offR g51 (AV AAR)
       replace oi:=(((((oi.offR g42 (AV Rs)).kn g45).offR g46 (AV Rs)).kn g49).offR g50 (AV AAS)).offR g51 (AV AAT)
       replace HG:=AD (AD (AA (AD (AA (AD (AA (AA HG g40) g41) g42 GR) g45) g46 GR) g49) g50 CY) g51 FP
       replace A9:=h51
       refine AE ?_
       refine k48 _ _ ?_
       refine ALr ?_
       repeat refine AL ?_
       refine BU (fn:=Tryz.f36) GL (Bj (p:=4) (q:=5) Tryz.results36 GL rfl rfl rfl rfl (BX hsa (Be _ _) (.slice ai (ks.length+1) ci) rfl) (EU 0) AR A9) (Bz Tryz.func81 (by kernel_rfl) rfl _ _) (GI _ _ _) ?_
       exact VRes.mk (P:=NT (ks.map VK.p) o T) (by unfold M1;rw[if_pos hv,if_neg (by rw[hf];simp),if_neg (by simpa using hfull)]) (AGx hmp hi hyo hyl) oi (KsT.ins kr rt i) HG
   · refine ALn ?_
     refine AI CU 6 [(17,Ao sa po (.slice ((some ⟨A,0,none⟩)) ks.length ks.length)),(18,AP o),(19,.tuple #[.int .i64 ((i:Int)),.bool true]),(16,.tuple #[.int .i64 ((i:Int)),.bool true]),(20,.int .i64 ((i:Int))),(21,.bool true)]
       ⟨yl r6 (BX hsa hpo (.slice ((some ⟨A,0,none⟩)) ks.length ks.length) rfl) AK,yl r6 (CD o ho.1) AN,Ae [Ao sa po (.slice ((some ⟨A,0,none⟩)) ks.length ks.length),AP o] Tryz.func71 (by kernel_rfl) rq4 ⟨(oy rfl rfl),(oy rfl rfl),ALu⟩ (Au fun W g=>X5 hsa hpo ho hmp (ow.kn g) (kr.1.kn g) hv hf hi),ym r5,BC rq4 (fun _ _ h=>⟨_,_,h,rfl,rfl⟩),BC rq4 (fun _ _ h=>⟨_,_,h,rfl,rfl⟩),ALu⟩ fun a52 w52 g52 VZ=>?_
     refine Aa (v:=.int .i64 ((i:Int))) VZ r6 fun a53 Td=>?_
     refine Aa (v:=.bool true) Td r6 fun a54 ME=>?_
     have AEs:Sv _ _ [_,_,_,_,_,_,_,_,_,_,_,_,_] _:=ME.dl [17,18,19,16,20,21]
     refine AE ?_
     refine k20 _ _ ?_
     refine ALo fun K56 k56=>?_
     refine ALo fun K57 k57=>?_
     refine ALn ?_
     refine AI AEs 1 [(22,.bool true)]
       ⟨ym r5,ALu⟩ fun a58 w58 g58 Lf=>?_
     have AJ4:=AA g52 g58
     refine AE ?_
     refine k57 _ _ ?_
     refine Ay Lf rfl rfl ?_
     refine ALo fun K59 k59=>?_
     refine ALn ?_
     refine AI Lf 1 [(23,Ao sa po (.slice ((some ⟨A,0,none⟩)) ks.length ks.length))]
       ⟨yl r6 (BX hsa hpo (.slice ((some ⟨A,0,none⟩)) ks.length ks.length) rfl) (AC AJ4 AK),ALu⟩ fun a60 w60 g60 YN=>?_
     have AEt:=AA AJ4 g60
     refine As YN r7 (BX hsa hpo (.slice ((some ⟨A,0,none⟩)) ks.length ks.length) rfl) (AC AEt AR) (by first|rfl|simp[Ag,AJ,AU,hsa.1,hpo.1]) fun w61 g61 h61=>?_
     replace A9:=Al AEt g61 A9 BI
     refine As YN r7 (EU 0) A9 rfl fun w62 g62 h62=>?_
     replace AR:=AY g62 h61 (Ne.symm BI)
     replace ow:=((ow.kn AEt).offR g61 (AV Gx)).offR g62 (AV Nc)
     replace kr:=((kr.kn AEt).offR g61 (AV Ee)).offR g62 (AV Nf)
     replace HG:=AD (AD (AA HG AEt) g61 CY) g62 FP
     replace A9:=h62
     refine AE ?_
     refine k59 _ _ ?_
     refine ALr ?_
     repeat refine AL ?_
     refine BU (fn:=Tryz.f36) YN (Bj (p:=4) (q:=5) Tryz.results36 YN rfl rfl rfl rfl (BX hsa hpo (.slice ((some ⟨A,0,none⟩)) ks.length ks.length) rfl) (EU 0) AR A9) (Bz Tryz.func81 (by kernel_rfl) rfl _ _) (GI _ _ _) ?_
     exact VRes.mk (P:=ks.map VK.p) (by unfold M1;rw[if_pos hv,if_pos hf]) hmp ow kr HG
end Go.Proofs.YtbfjfnbcmojpiaaGreat
