import Derived.Test.YtbfjfnbcmojpiaaGreatOtSH
set_option linter.unusedSimpArgs false
set_option linter.unusedVariables false
set_option maxRecDepth 100000
set_option maxHeartbeats 4000000
namespace Go.Proofs.YtbfjfnbcmojpiaaGreat
open Go.RowKit Go.Shelf
theorem Zt (l:List Nd):(Az l).all Value.oneCell'=true:=PE l
theorem Zu {w:World} {ao:Option Addr} {n cap j:Nat} {ks:List VK} {x:VK} (h:Sl w 33 (.slice ao n cap) n (ks.flatMap AY)) (hj:j<ks.length) (hx:ks[j]=x):w.rangeAt (bO ao) (oO ao+j*33) (AY x):=hx▸DS h C6 hj (by decide)
theorem ME {w:World} {ao:Option Addr} {n cap j:Nat} {ks:List VK} {x:VK} (h:Sl w 33 (.slice ao n cap) n (ks.flatMap AY)) (hj:j<ks.length) (hx:ks[j]=x):w.rangeAt (bO ao) (oO ao+j*33) (bv x.o):=
 OY (o:=oO ao+j*33) (k:=0) (A:=[]) (B:=bv x.o) (C:=[x.s]) (Zu h hj hx) rfl
theorem ACZ  (w:World) :
  Calls Tryz.prog 114 #[.slice none 0 0] w fun e w'=>e=.returned (.slice none 0 0)∧w.grownBy w' none:=by
 refine Be Tryz.func114 rfl Tryz.ntmps114 rfl fun a0 sv0=>?_
 have HG:=World.grownBy.refl w none
 replace sv0:Sv 8 [] [(0,.slice none 0 0)] a0:=sv0
 refine ALl fun K1 k1=>?_
 refine ALk ?_
 refine Aa (v:=.slice none 0 0) sv0 r6 fun a2 sv2=>?_
 refine AE ?_
 refine k1 _ _ ?_
 refine ALl fun K3 k3=>?_
 refine ALl fun K4 k4=>?_
 refine ALk ?_
 refine AK sv2 2 [(3,.slice none 0 0),(4,.bool true)]
  ⟨ym r5,Cq r6 (fun _=>Ul Tryz.underlying54 rfl),ALr⟩ fun a5 w5 g5 sv5=>?_
 refine AE ?_
 refine k4 _ _ ?_
 refine Ar sv5 rfl rfl ?_
 refine ALl fun K6 k6=>?_
 refine ALk ?_
 refine Aa (v:=.slice none 0 0) sv5 r6 fun a7 sv7=>?_
 refine AE ?_
 refine k6 _ _ ?_
 replace HG:=AA HG g5
 refine ALo ?_
 repeat refine AM ?_
 refine BQ (fn:=Tryz.f114) sv7 (BT (p:=2) Tryz.results114 sv7 rfl rfl) ?_
 exact⟨rfl,HG⟩
theorem Zv (l:List Nd) (ad:Addr) (cap:Nat) (w:World) (h:RdT w (.slice ((some ad)) l.length cap) l) :
  Calls Tryz.prog 114 #[.slice ((some ad)) l.length cap] w fun e w'=>∃ao cap,e=.returned (.slice ao l.length cap)∧RdTg w' (.slice ao l.length cap) l∧(∀k,NA (.slice ao l.length cap) k→w.heap.size≤k)∧w.grownBy w' none:=by
 refine Be Tryz.func114 rfl Tryz.ntmps114 rfl fun a0 sv0=>?_
 have HG:=World.grownBy.refl w none
 replace sv0:Sv 8 [] [(0,.slice ((some ad)) l.length cap)] a0:=sv0
 refine ALl fun K1 k1=>?_
 refine ALk ?_
 refine Aa (v:=.slice none 0 0) sv0 r6 fun a2 sv2=>?_
 refine AE ?_
 refine k1 _ _ ?_
 refine ALl fun K3 k3=>?_
 refine ALl fun K4 k4=>?_
 refine ALk ?_
 refine AK sv2 2 [(3,.slice ((some ad)) l.length cap),(4,.bool false)]
  ⟨ym r5,Cq r6 (fun _=>Ul Tryz.underlying54 rfl),ALr⟩ fun a5 w5 g5 sv5=>?_
 refine AE ?_
 refine k4 _ _ ?_
 refine Av sv5 rfl rfl ?_
 refine ALp ?_
 refine k3 _ _ ?_
 refine ALl fun K6 k6=>?_
 refine ALk ?_
 replace h:=h.kn g5
 replace HG:=AA HG g5
 refine FH (sv5.st w5) 3 [(5,Sp.lit0 w5.heap.size 132),(6,Sp.is (.slice ((some ad)) l.length cap)),(7,Sp.row w5.heap.size 132 34 l.length (Az l))] rfl (by kernel_rfl) (by kernel_rfl) (by kernel_rfl)
  ⟨Uo (t:=0) rfl trivial (Nat.le_refl _) (fun a w=>by kernel_rfl) (fun _ _ h=>h),ym r5,Up (news:=Az l) OM rfl rfl trivial rfl (fun _ _ h=>h) (oy rfl rfl) (fun _ g=>(h.kn g).1) (Zt l) h.2.2.2 (Nat.le_refl _) (fun _ _ h=>h),ALr⟩ fun a7 w7 g7 st7=>?_
 obtain⟨hn7,hd7,e7_5,e7_6,e7_7,e7_3,e7_4,e7_2,e7_0,-⟩:=st7
 obtain⟨ao8,cap8,e7_7q,ow8,fr8⟩:=e7_7
 have Zw:=Jp HG fr8
 replace h:=h.kn g7
 replace HG:=AA HG g7
 have sv7:Sv 8 [] [(3,_),(4,_),(2,_),(0,_),(7,_)] a7:=⟨hn7,hd7,e7_3,e7_4,e7_2,e7_0,e7_7q,ALr⟩
 refine Aa (v:=.slice ao8 l.length cap8) sv7 r6 fun a9 sv9=>?_
 refine AE ?_
 refine k6 _ _ ?_
 refine ALo ?_
 repeat refine AM ?_
 refine BQ (fn:=Tryz.f114) sv9 (BT (p:=2) Tryz.results114 sv9 rfl rfl) ?_
 exact⟨_,_,rfl,⟨⟨Sl.of_own ow8,h.2.1,fun k hk=>Own.lt ow8 k hk.1,h.2.2.2⟩,Tag.of ow8⟩,fun k hk=>Zw k hk.1,HG⟩
theorem Zx {l:List Nd} {s:Value} {w:World} (h:RdT w s l):Calls Tryz.prog 114 #[s] w fun e w'=>∃ao cap,e=.returned (.slice ao l.length cap)∧RdTg w' (.slice ao l.length cap) l∧(∀k,NA (.slice ao l.length cap) k→w.heap.size≤k)∧w.grownBy w' none:=by
 obtain⟨ao,cap,rfl⟩:=h.shape
 cases ao with
 | some ad=>exact Zv l ad cap w h
 | none =>
  have h0:l.length=0∧cap=0:=by
   obtain⟨⟨_,ao',cap',e,h1,_,h3,_⟩,_⟩:=h
   simp only[Value.slice.injEq,true_and] at e
   obtain⟨rfl,rfl⟩:=e
   have:=h3 rfl
   omega
  obtain⟨h1,rfl⟩:=h0
  obtain rfl:l=[]:=List.eq_nil_of_length_eq_zero h1
  exact(ACZ w).mono fun e w' ⟨h1,h2⟩=>⟨none,0,h1,⟨h.kn h2,fun k hk=>(UO k hk).elim⟩,fun k hk=>(UO k hk).elim,h2⟩
theorem AEZ {w0:World} {l:List Nd} {s:Value} (h:RdT w0 s l):∀W,w0.grownBy W none→Calls Tryz.prog 114 #[s] W fun e W'=>∃v,e=.returned v∧W.grownBy W' none∧(Sp.cl w0.heap.size l).on W' v:=fun W g =>
 (Zx (h.kn g)).mono fun e W' ⟨ao,cap,h1,h2,h3,h4⟩=>⟨_,h1,h4,ao,cap,rfl,h2,fun k hk=>Nat.le_trans g.size (h3 k hk)⟩
theorem Xe (ks:List VK) (ao:Option Addr) (cap:Nat) (sa po:List Nat) (hsa:Dg sa) (hpo:Dg po) (w:World) (hr:RdK w (.slice ao ks.length cap) ks) (h64:ks.length≤64) :
   Calls Tryz.prog 72 #[Ao sa po (.slice ao ks.length cap)] w fun e w'=>∃A ms,e=.returned (Ao sa po (.slice (some ⟨A,0,none⟩) ks.length ks.length))∧ms.map VK.p=ks.map VK.p∧Own w' 58 33 (.slice (some ⟨A,0,none⟩) ks.length ks.length) ks.length (ms.flatMap AY)∧KsT w' ms∧w.heap.size≤A∧(∀k,DI ms k→w.heap.size≤k∧k≠A)∧w.grownBy w' none:=by
 refine Be Tryz.func72 rfl Tryz.ntmps72 rfl fun a0 sv0=>?_
 have HG:=World.grownBy.refl w none
 replace sv0:Sv 33 [] [(0,Ao sa po (.slice ao ks.length cap))] a0:=sv0
 refine ALl fun K1 k1=>?_
 refine ALk ?_
 refine Bm sv0 r6 (BR hsa hpo (.slice ao ks.length cap) rfl) fun a2 w2 CO F7 g2 z2 Ac sv2=>?_
 have AGe:=B7 HG F7
 replace HG:=AA HG g2
 refine Ax (T:=36) (Z:=([bv AS,bv AS,[.slice none 0 0]].flatten)) sv2 rfl rfl rfl (fun a w=>by kernel_rfl) fun a3 w3 Og JK g3 z3 CS sv3=>?_
 have Uy:=Au Ac JK
 have KG:=B7 HG JK
 replace Ac:=AC g3 Ac
 replace hr:=(hr.kn g2).kn g3
 replace HG:=AA HG g3
 refine AE ?_
 refine k1 _ _ ?_
 refine ALl fun K4 k4=>?_
 refine ALk ?_
 refine FH (sv3.st w3) 4 [(6,Sp.is (pk CO 64)),(7,Sp.is (.slice ao ks.length cap)),(8,Sp.is (.int .i64 ((ks.length:Nat)))),(9,Sp.made w3.heap.size 58 33 ks.length ((List.replicate ks.length Q7).flatMap AY))] rfl (by kernel_rfl) (by kernel_rfl) (by kernel_rfl)
   ⟨yf r6 (fun _=>by kernel_rfl),yp (i:=2) r6 (EC (.slice ao ks.length cap) rfl) Ac rfl (by simp[AI,AQ,hsa.1,hpo.1]),Bv (Tryz.underlying34) rfl rfl trivial (oy rfl rfl) (fun _=>rfl),AGS (m:=ks.length) (xs:=(List.replicate ks.length Q7).flatMap AY) RF rfl rfl trivial (Nat.le_refl _) (oy rfl rfl) (by omega) (AJm _).symm (fun _ _ h=>h),ALr⟩ fun a5 w5 g5 st5=>?_
 obtain⟨hn5,hd5,e5_6,e5_7,e5_8,e5_9,e5_2,e5_1,e5_0,-⟩:=st5
 obtain⟨A,e5_9q,ow,geA⟩:=e5_9
 have frA:∀k,Bi (.slice ((some ⟨A,0,none⟩)) ks.length ks.length) k→w3.heap.size≤k:=fun k hk=>(Option.some.inj hk)▸geA
 have Ig:=CA frA Ac
 have Ih:=CA frA CS
 have ap_hr_ow:=AEG (hr.lt) frA
 have lo_ow:=Jp HG frA
 replace Ac:=AC g5 Ac
 have sv5:Sv 33 [] [(2,_),(1,_),(0,_),(9,_)] a5:=⟨hn5,hd5,e5_2,e5_1,e5_0,e5_9q,ALr⟩
 refine Aa (v:=.slice ((some ⟨A,0,none⟩)) ks.length ks.length) sv5 r6 fun a6 sv6=>?_
 refine AE ?_
 refine k4 _ _ ?_
 refine ALl fun K7 k7=>?_
 refine ALl fun K8 k8=>?_
 refine ALk ?_
 refine AK sv6 4 [(10,pk CO 64),(11,.slice ao ks.length cap),(12,.int .i64 ((ks.length:Nat))),(13,.int .i64 0)]
   ⟨yf r6 (fun _=>by kernel_rfl),yp (i:=2) r6 (EC (.slice ao ks.length cap) rfl) Ac rfl (by simp[AI,AQ,hsa.1,hpo.1]),Bv (Tryz.underlying34) rfl rfl trivial (oy rfl rfl) (fun _=>rfl),E3 (.inl rfl) rfl trivial (fun _=>rfl),ALr⟩ fun a9 w9 g9 sv9=>?_
 refine AE ?_
 refine k8 _ _ ?_
 refine BF fun Q10 x10 y10 r10 o10=>?_
 replace Ac:=AC g9 Ac
 replace CS:=AC g9 (AC g5 CS)
 replace hr:=(hr.kn g5).kn g9
 replace ow:=ow.kn g9
 replace HG:=AA (AA HG g5) g9
 have kr:=KsT.rep w9 ks.length
 have KH:∀k,DI (List.replicate ks.length Q7) k→k≠CO:=fun k hk=>(LQ _ _ hk).elim
 have KI:∀k,DI (List.replicate ks.length Q7) k→k≠Og:=fun k hk=>(LQ _ _ hk).elim
 have ap_kr_ow:∀k,DI (List.replicate ks.length Q7) k→¬Bi (.slice ((some ⟨A,0,none⟩)) ks.length ks.length) k:=fun k hk=>(LQ _ _ hk).elim
 refine wp_loop (fun a w'=>∃(i:Nat) (ms:List VK),(i≤ks.length)∧(ms.length=ks.length)∧(∀j,j<i→(ms.map VK.p)[j]?=(ks.map VK.p)[j]?)∧(∀k,DI ms k→w.heap.size≤k)∧Sv 33 [] [(13,.int .i64 ((i:Int))),(10,pk CO 64),(11,.slice ao ks.length cap),(12,.int .i64 ((ks.length:Nat))),(3,.slice ((some ⟨A,0,none⟩)) ks.length ks.length),(2,pt Og),(1,pt CO),(0,Ao sa po (.slice ao ks.length cap)),(9,.slice ((some ⟨A,0,none⟩)) ks.length ks.length)] a∧w.grownBy w' none∧w'.heap[CO]?=some (.cells ([bv sa,bv po,[.slice ao ks.length cap]].flatten).toArray 36 (0,0))∧w'.heap[Og]?=some (.cells (([bv AS,bv AS,[.slice none 0 0]].flatten)).toArray 36 (0,0))∧RdK w' (.slice ao ks.length cap) ks∧Own w' 58 33 (.slice ((some ⟨A,0,none⟩)) ks.length ks.length) ks.length (ms.flatMap AY)∧KsT w' ms∧(∀k,Bi (.slice ((some ⟨A,0,none⟩)) ks.length ks.length) k→k≠CO)∧(∀k,Bi (.slice ((some ⟨A,0,none⟩)) ks.length ks.length) k→k≠Og)∧(∀k,JZ (.slice ao ks.length cap) ks k→¬Bi (.slice ((some ⟨A,0,none⟩)) ks.length ks.length) k)∧(∀k,DI ms k→¬Bi (.slice ((some ⟨A,0,none⟩)) ks.length ks.length) k)∧(∀k,Bi (.slice ((some ⟨A,0,none⟩)) ks.length ks.length) k→w.heap.size≤k)∧(∀k,DI ms k→k≠CO)∧(∀k,DI ms k→k≠Og)) (fun a _=>(ks.length-intOf (a.tmps.getD 13 undef)).toNat) ⟨0,List.replicate ks.length Q7,Nat.zero_le _,by simp,fun j hj=>by omega,fun k hk=>(LQ _ _ hk).elim,⟨sv9.1,sv9.2.1,sv9.2.2.2.2.2.1,sv9.2.2.1,sv9.2.2.2.1,sv9.2.2.2.2.1,sv9.2.2.2.2.2.2.1,sv9.2.2.2.2.2.2.2.1,(AH sv9).1,(AH sv9).2.1,(AH sv9).2.2.1,ALr⟩,HG,Ac,CS,hr,ow,kr,Ig,Ih,ap_hr_ow,ap_kr_ow,lo_ow,KH,KI⟩ fun a11 w11 hI11=>?_
 clear Ac
 clear CS
 clear hr
 clear ow
 clear kr
 clear HG
 obtain⟨i,ms,hin,hms,hp,hfr,CY,HG,Ac,CS,hr,ow,kr,Ig,Ih,ap_hr_ow,ap_kr_ow,lo_ow,KH,KI⟩:=hI11
 refine ALl fun K12 k12=>?_
 by_cases hi:i<ks.length
 · obtain⟨x,hx_x⟩:∃x,ks[i]'hi=x:=⟨_,rfl⟩
   have him:i<ms.length:=by omega
   obtain⟨z,hx_z⟩:∃x,ms[i]'him=x:=⟨_,rfl⟩
   refine ALk ?_
   refine AK CY 1 [(14,.bool true)]
    ⟨Ho r7 (fun _=>Bk (decide_eq_true (by omega))),ALr⟩ fun a13 w13 g13 Dh=>?_
   refine AE ?_
   refine k12 _ _ ?_
   refine ALl fun K14 k14=>?_
   refine Ar Dh rfl rfl ?_
   refine ALp ?_
   refine k14 _ _ ?_
   refine ALl fun K15 k15=>?_
   refine BF fun Q16 x16 y16 r16 o16=>?_
   refine ALl fun K17 k17=>?_
   refine ALk ?_
   replace hr:=hr.kn g13
   refine AK Dh 3 [(15,.int .i64 ((i:Int))),(16,pk ((bO ao)) (oO ao+i*33)),(17,Hp x)]
    ⟨ym r5,BJ rq8 (fun w=>CW Tryz.underlying34 (by kernel_rfl) (hr.1.1) (by omega) (rfl) w),CD r6 (fun _ g=>Ae (Uq x) (RdK.keyX (hr.kn g) rfl hi hx_x)),ALr⟩ fun a18 w18 g18 Ca=>?_
   replace Ac:=AC g18 (AC g13 Ac)
   replace CS:=AC g18 (AC g13 CS)
   replace hr:=hr.kn g18
   replace ow:=(ow.kn g13).kn g18
   replace kr:=(kr.kn g13).kn g18
   replace HG:=AA (AA HG g13) g18
   refine Ax (T:=58) (Z:=([bv AS,[.slice none 0 0]].flatten)) Ca rfl rfl rfl (fun a w=>by kernel_rfl) fun a19 w19 ABF Ju g19 z19 RG Er=>?_
   have Su:=Au Ac Ju
   have Sw:=Au CS Ju
   have AEa:=B7 HG Ju
   have Xf:=A2 (hr.lt) Ju
   have Xg:=A2 (Own.ltS ow) Ju
   have PN:=A2 (kr.lt) Ju
   refine Aa (v:=.int .i64 ((i:Int))) Er r6 fun a20 E5=>?_
   refine Ap E5 r7 (Uq x) RG (by first|rfl|simp[AY,AI,AQ,x.ho.1]) fun w21 g21 h21=>?_
   replace Ac:=AX g21 (AC g19 Ac) (Ne.symm Su)
   replace CS:=AX g21 (AC g19 CS) (Ne.symm Sw)
   replace hr:=(hr.kn g19).offR g21 (AU Xf)
   replace ow:=(ow.kn g19).offR g21 (AU Xg)
   replace HG:=AD (AA HG g19) g21 AEa
   replace RG:=h21
   refine AE ?_
   refine k17 _ _ ?_
   refine DU (E5.st w21) (by kernel_rfl) 11 [(18,Sp.is (.slice ((some ⟨A,0,none⟩)) ks.length ks.length)),(19,Sp.is (.int .i64 ((i:Int)))),(20,Sp.is (pt ABF)),(21,Sp.is (AR x.o)),(22,Sp.is (pk ABF 32)),(23,Sp.is (pk ABF 32)),(24,Sp.is (VK.s x)),(25,Sp.cl w21.heap.size x.l),(26,Sp.ct w21.heap.size x.l),(27,Sp.ck w21.heap.size x.o x.l),(28,Sp.is (pk ((bO ((some ⟨A,0,none⟩)))) (oO ((some ⟨A,0,none⟩))+i*33)))] rfl (by kernel_rfl) (by kernel_rfl) (by kernel_rfl) [] (by kernel_rfl)
    ⟨ym r5,ym r5,yf r6 (fun _=>by kernel_rfl),yp (i:=0) r6 (CB x.o x.ho.1) RG rfl rfl,yf r6 (fun _=>by kernel_rfl),yf r6 (fun _=>by kernel_rfl),yp (i:=1) r6 (AF4 (VK.s x) rfl) RG rfl (by simp[AI,AQ,x.ho.1]),Ad [VK.s x] Tryz.func114 (by kernel_rfl) rq4 ⟨(oy rfl rfl),ALr⟩ (AEZ (hr.kt hi hx_x)),MB rfl rfl trivial rfl (fun W _ av h=>match av,h with|[u],⟨h1,_⟩=>AJn h1),MB rfl rfl trivial rfl (fun W _ av h=>match av,h with|[u,t],⟨h1,h2,_⟩=>AEH x.ho h1 h2),BJ rq8 (fun w=>CW Tryz.underlying34 (by kernel_rfl) (Sl.of_own ow) (by omega) (rfl) w),ALr⟩ trivial
    [] (by kernel_rfl) trivial ⟨.inl rfl,.inl rfl,.inl rfl,.inl rfl,.inl rfl,.inl rfl,.inl rfl,.inl rfl,.inl rfl,.inl rfl,.inl rfl,ALr⟩ (by kernel_rfl) fun a22 w22 g22 st22 nd22=>?_
   obtain⟨hn22,hd22,e22_18,e22_19,e22_20,e22_21,e22_22,e22_23,e22_24,e22_25,e22_26,e22_27,e22_28,e22_4,e22_5,e22_15,e22_16,e22_17,e22_14,e22_13,e22_10,e22_11,e22_12,e22_3,e22_2,e22_1,e22_0,e22_9,-⟩:=st22
   obtain⟨y,e22_27q,hyo,hyl,rt,frB⟩:=e22_27
   have HG0:=HG
   have Zy:=CA frB Ac
   have Zz:=CA frB CS
   have Xh:=CA frB RG
   have ap_rt_ow:=AKx (Own.ltS ow) frB
   replace ow:=ow.kn g22
   have Cv:Sv 33 [] [(4,_),(5,_),(15,_),(16,_),(17,_),(14,_),(13,_),(10,_),(11,_),(12,_),(3,_),(2,_),(1,_),(0,_),(9,_),(27,_),(28,_)] a22:=⟨hn22,hd22,e22_4,e22_5,e22_15,e22_16,e22_17,e22_14,e22_13,e22_10,e22_11,e22_12,e22_3,e22_2,e22_1,e22_0,e22_9,e22_27q,e22_28,ALr⟩
   refine J5 (c:=AY) (el:=y) Cv rfl rfl rfl rfl rfl rfl rfl (Uq y) ow C6 (by decide) (by first|omega|(simp only[List.length_set];omega)) rfl fun w23 g23 h23=>?_
   replace Ac:=AF g23 (AC g22 Ac) (fun e=>Ig _ (Ct (j:=i) ow (by omega) rfl) (Option.some.inj e).symm)
   replace CS:=AF g23 (AC g22 CS) (fun e=>Ih _ (Ct (j:=i) ow (by omega) rfl) (Option.some.inj e).symm)
   replace hr:=(hr.kn g22).offR g23 (fun k hk e=>ap_hr_ow k hk (Ct (j:=i) ow (by omega) e))
   replace kr:=(((kr.kn g19).offR g21 (AU PN)).kn g22).offR g23 (fun k hk e=>ap_kr_ow k hk (Ct (j:=i) ow (by omega) e))
   replace rt:=rt.offR g23 (fun k hk e=>ap_rt_ow k hk (Ct (j:=i) ow (by omega) e))
   replace HG:=Bh (AA HG g22) g23 fun k e=>lo_ow k (Ct (j:=i) ow (by omega) e)
   refine AE ?_
   have kr2:=KsT.set kr (x:=y) rt i
   have Xi:∀k,DI (ms.set i y) k→k≠CO:=fun k hk=>(Eh hk).elim (KH k) (Zy k)
   have Xj:∀k,DI (ms.set i y) k→k≠Og:=fun k hk=>(Eh hk).elim (KI k) (Zz k)
   have AGf:∀k,DI (ms.set i y) k→k≠ABF:=fun k hk=>(Eh hk).elim (PN k) (Xh k)
   have ap_kr2_ow:∀k,DI (ms.set i y) k→¬Bi (.slice ((some ⟨A,0,none⟩)) ks.length ks.length) k:=fun k hk=>(Eh hk).elim (ap_kr_ow k) (ap_rt_ow k)
   refine y16 _ _ ?_
   refine k15 _ _ ?_
   refine ALk ?_
   refine AK Cv 1 [(29,.int .i64 (((i+1:Nat):Int)))]
    ⟨Cq r6 (fun _=>DK (by rw[BA (by omega) (by omega)];omega)),ALr⟩ fun a24 w24 g24 Cn=>?_
   refine AK (Cn.dl [13]) 1 [(13,.int .i64 (((i+1:Nat):Int)))]
    ⟨ym r5,ALr⟩ fun a25 w25 g25 DM=>?_
   have Ks:=AA g24 g25
   refine AE ?_
   replace Ac:=AC Ks Ac
   replace CS:=AC Ks CS
   replace hr:=hr.kn Ks
   replace ow:=h23.kn Ks
   replace kr2:=kr2.kn Ks
   replace HG:=AA HG Ks
   exact⟨⟨i+1,ms.set i y,by omega,by rw[List.length_set];exact hms,AGT hms hi hx_x hyo hyl hp,fun k hk=>(Eh hk).elim (hfr k) fun h=>Nat.le_trans HG0.size (frB k h),⟨DM.1,DM.2.1,DM.2.2.1,(AH DM).2.2.1,(AH DM).2.2.2.1,(AH DM).2.2.2.2.1,(AH DM).2.2.2.2.2.1,(AH DM).2.2.2.2.2.2.1,(AH DM).2.2.2.2.2.2.2.1,(AH (AH DM)).1,(AH (AH DM)).2.1,ALr⟩,HG,Ac,CS,hr,ow,kr2,Ig,Ih,ap_hr_ow,ap_kr2_ow,lo_ow,Xi,Xj⟩,by rw[show _=_ from DM.2.2.1,show _=_ from CY.2.2.1];simp[intOf];omega⟩
 · have hall:=AIV hms hi hp
   refine ALk ?_
   refine AK CY 1 [(14,.bool false)]
    ⟨Ho r7 (fun _=>Bk (decide_eq_false (by omega))),ALr⟩ fun a26 w26 g26 Co=>?_
   refine AE ?_
   refine k12 _ _ ?_
   refine ALl fun K27 k27=>?_
   refine Av Co rfl rfl ?_
   refine wp_exit ?_
   repeat refine CJ ?_
   refine x10 _ _ ?_
   refine k7 _ _ ?_
   refine ALl fun K28 k28=>?_
   refine ALk ?_
   refine AK Co 2 [(30,.slice ((some ⟨A,0,none⟩)) ks.length ks.length),(31,pk CO 64)]
    ⟨ym r5,yf r6 (fun _=>by kernel_rfl),ALr⟩ fun a29 w29 g29 Cc=>?_
   have Gk:=AA g26 g29
   refine LP (L:=[bv sa,bv po,[.slice ao ks.length cap]]) (i:=2) Cc r7 (EC (.slice ((some ⟨A,0,none⟩)) ks.length ks.length) rfl) (AC Gk Ac) rfl (by simp[AI,AQ,hsa.1,hpo.1]) rfl fun w30 g30 h30=>?_
   replace CS:=Ah Gk g30 CS Uy
   replace Ac:=h30
   refine AE ?_
   refine k28 _ _ ?_
   refine ALl fun K31 k31=>?_
   refine ALk ?_
   refine AK Cc 1 [(32,Ao sa po (.slice ((some ⟨A,0,none⟩)) ks.length ks.length))]
    ⟨yl r6 (BR hsa hpo (.slice ((some ⟨A,0,none⟩)) ks.length ks.length) rfl) Ac,ALr⟩ fun a32 w32 g32 Ck=>?_
   refine Ap Ck r7 (BR hsa hpo (.slice ((some ⟨A,0,none⟩)) ks.length ks.length) rfl) (AC g32 CS) (by first|rfl|simp[AY,AI,AQ,hsa.1,hpo.1]) fun w33 g33 h33=>?_
   replace ow:=(((ow.kn Gk).offR g30 (AU Ig)).kn g32).offR g33 (AU Ih)
   replace kr:=(((kr.kn Gk).offR g30 (AU KH)).kn g32).offR g33 (AU KI)
   replace HG:=AD (AA (AD (AA HG Gk) g30 AGe) g32) g33 KG
   replace CS:=h33
   refine AE ?_
   refine k31 _ _ ?_
   refine ALo ?_
   repeat refine AM ?_
   refine BQ (fn:=Tryz.f72) Ck (E4 (p:=2) Tryz.results72 Ck rfl rfl (BR hsa hpo (.slice ((some ⟨A,0,none⟩)) ks.length ks.length) rfl) CS) ?_
   exact⟨A,ms,rfl,hall,ow,kr,lo_ow _ rfl,fun k hk=>⟨hfr k hk,fun e=>ap_kr_ow k hk (e▸rfl)⟩,HG⟩
def TagV (w:World) (k:Nat):Prop:=TagB w k∨∃c fr,w.heap[k]?=some (.cells c 58 fr)
theorem TagV.keep {w w':World} {k:Nat} (h:TagV w k) {row:Option Nat} (g:w.grownBy w' row) (hb:row≠some k):TagV w' k:=h.imp (·.keep g hb) fun⟨c,fr,h1⟩=>⟨c,fr,AF g h1 fun e=>hb e.symm⟩
def VRes (w w':World) (r:VV×Int) (fp:Nat→Prop) (e:Ending):Prop:=∃ao cap ks,e=.returned (.tuple #[Ao r.1.2.1 r.1.2.2 (.slice ao ks.length cap),.int .i64 r.2])∧ks.map VK.p=r.1.1∧RdK w' (.slice ao ks.length cap) ks∧(∀k,JZ (.slice ao ks.length cap) ks k→fp k∨TagV w' k)∧w.grownBy w' none
theorem VRes.zero {w w':World} {r:VV×Int} {fp:Nat→Prop} {c:Int} (hr:r=(LZ,c)) (h:w.grownBy w' none):VRes w w' r fp (.returned (.tuple #[Ao AS AS (.slice none 0 0),.int .i64 c])):=by
 subst hr
 exact⟨none,0,[],rfl,rfl,RdK.nil w',fun k hk=>(NU k hk).elim,h⟩
theorem VRes.mk2 {w w':World} {r:VV×Int} {fp:Nat→Prop} {P:List VP} {sa po:List Nat} {c:Int} {ao:Option Addr} {n cap:Nat} {ks:List VK} (hr:r=((P,sa,po),c)) (hp:ks.map VK.p=P) (ho:Own w' 58 33 (.slice ao n cap) n (ks.flatMap AY)) (hk:KsR w' ks) (h2:∀k,DI ks k→fp k∨TagB w' k)
  (h:w.grownBy w' none):VRes w w' r fp (.returned (.tuple #[Ao sa po (.slice ao n cap),.int .i64 c])):=by
 obtain rfl:=Own.rdk ho
 subst hr
 exact⟨ao,cap,ks,rfl,hp,⟨ho.sb,hk⟩,fun k hk=>hk.elim (fun h=>.inr (.inr (Own.block ho h))) (fun h=>(h2 k h).imp id .inl),h⟩
theorem VRes.mk {w w':World} {r:VV×Int} {fp:Nat→Prop} {P:List VP} {sa po:List Nat} {c:Int} {ao:Option Addr} {n cap:Nat} {ks:List VK} (hr:r=((P,sa,po),c)) (hp:ks.map VK.p=P) (ho:Own w' 58 33 (.slice ao n cap) n (ks.flatMap AY)) (hk:KsT w' ks)
 (h:w.grownBy w' none):VRes w w' r fp (.returned (.tuple #[Ao sa po (.slice ao n cap),.int .i64 c])):=VRes.mk2 hr hp ho hk.1 (fun k hk'=>.inr (hk.2 k hk')) h
theorem VRes.same {w w':World} {r:VV×Int} {fp:Nat→Prop} {P:List VP} {sa po:List Nat} {c:Int} {ao:Option Addr} {cap:Nat} {ks:List VK} (hr:r=((P,sa,po),c)) (hp:ks.map VK.p=P) (ho:RdK w' (.slice ao ks.length cap) ks)
  (h1:∀k,JZ (.slice ao ks.length cap) ks k→fp k) (h:w.grownBy w' none):VRes w w' r fp (.returned (.tuple #[Ao sa po (.slice ao ks.length cap),.int .i64 c])):=by
 subst hr
 exact⟨ao,cap,ks,rfl,hp,ho,fun k hk=>.inl (h1 k hk),h⟩
def Sp.cln (B:Nat) (sa po:List Nat) (n:Nat) (P:List VP):Sp:=⟨fun w v=>∃(A:Nat) (ms:List VK),v=Ao sa po (.slice (some ⟨A,0,none⟩) n n)∧ms.map VK.p=P∧Own w 58 33 (.slice (some ⟨A,0,none⟩) n n) n (ms.flatMap AY)∧KsT w ms∧B≤A∧∀k,DI ms k→B≤k∧k≠A,
 fun _ _ _ hg ⟨A,ms,h1,h2,h3,h4,h5,h6⟩=>⟨A,ms,h1,h2,h3.kn hg,h4.kn hg,h5,h6⟩⟩
theorem Oh {w0:World} {ks:List VK} {ao:Option Addr} {cap:Nat} {sa po:List Nat} (hsa:Dg sa) (hpo:Dg po) (hr:RdK w0 (.slice ao ks.length cap) ks) (h64:ks.length≤64):∀W,w0.grownBy W none→Calls Tryz.prog 72 #[Ao sa po (.slice ao ks.length cap)] W fun e W'=>∃v,e=.returned v∧W.grownBy W' none∧(Sp.cln w0.heap.size sa po ks.length (ks.map VK.p)).on W' v:=fun W g =>
 (Xe ks ao cap sa po hsa hpo W (hr.kn g) h64).mono fun e W' ⟨A,ms,h1,h2,h3,h4,h5,h6,h7⟩=>⟨_,h1,h7,A,ms,rfl,h2,h3,h4,Nat.le_trans g.size h5,fun k hk=>⟨Nat.le_trans g.size (h6 k hk).1,(h6 k hk).2⟩⟩
theorem KsT.ins {w:World} {ms:List VK} (h:KsT w ms) {x:VK} (hx:RdTg w x.s x.l) (i:Nat):KsT w (ms.take i++x::ms.drop i):=by
 have hh:∀k,k∈ms.take i++x::ms.drop i→k∈ms∨k=x:=fun k hk=>by
  rcases List.mem_append.1 hk with hk|hk
  · exact .inl (List.mem_of_mem_take hk)
  · rcases List.mem_cons.1 hk with rfl|hk
    · exact .inr rfl
    · exact .inl (List.mem_of_mem_drop hk)
 exact⟨fun k hk=>(hh k hk).elim (h.1 k) fun e=>e▸hx.1,fun b ⟨k,hk,hb⟩=>(hh k hk).elim (fun h1=>h.2 b ⟨k,h1,hb⟩) fun e=>hx.2 b (e▸hb)⟩
def Sp.insr (B n:Nat) (ks:List VK):Sp:=⟨fun w v=>∃ao cap,v=.slice ao n cap∧Own w 58 33 (.slice ao n cap) n (ks.flatMap AY)∧∀k,Bi (.slice ao n cap) k→B≤k,fun _ _ _ hg ⟨ao,cap,h1,h2,h3⟩=>⟨ao,cap,h1,h2.kn hg,h3⟩⟩
theorem AIe {w0:World} {ms:List VK} {x:VK} {i A V n:Nat} (hn:n=ms.length) (hown:Own w0 58 33 (.slice (some ⟨A,0,none⟩) n n) n (ms.flatMap AY)) (hv:w0.heap[V]?=some (.cells (AY x).toArray 58 (0,0))) (hi:i≤n) (h64:n≤64) :
  ∀W,w0.grownBy W none→Calls Tryz.prog 83 #[.slice (some ⟨A,0,none⟩) n n,.int .i64 (i:Int),.slice (some ⟨V,0,none⟩) 1 1] W fun e W'=>∃v,e=.returned v∧W.grownBy W' none∧(Sp.insr w0.heap.size (n+1) (ms.take i++x::ms.drop i)).on W' v:=fun W g=>by
 subst hn
 exact(Xc ms x i A V W (hown.kn g) (AF g hv (by simp)) hi (by omega)).mono fun e W' ⟨v,h1,h2,h3,h4⟩=>by
  obtain⟨ao,cap,rfl,_⟩:=(Sl.of_own h2).shape
  exact⟨_,h1,h3,ao,cap,rfl,h2,fun k hk=>Nat.le_trans g.size (h4 k hk)⟩
theorem AGg {ms:List VK} {P:List VP} {o:List Nat} {T:List Nd} {x:VK} {i:Nat} (h:ms.map VK.p=P) (hi:pos P o=i) (ho:x.o=o) (hl:x.l=T):(ms.take i++x::ms.drop i).map VK.p=Ms P o T:=by
 unfold Ms
 rw[hi,List.map_append,List.map_cons,List.map_take,List.map_drop,h]
 simp[VK.p,ho,hl]
theorem Xk {w:World} {ks ms:List VK} {A n:Nat} {sa po o:List Nat} (hsa:Dg sa) (hpo:Dg po) (ho:Dg o) (hm:ms.map VK.p=ks.map VK.p) (ow:Own w 58 33 (.slice (some ⟨A,0,none⟩) n n) n (ms.flatMap AY)) (kr:KsR w ms) (hv:CI (ks.map VK.p)=true) {b:Bool} (hb:Gx (ks.map VK.p) o=b) {i:Nat} (hi:pos (ks.map VK.p) o=i) :
  Calls Tryz.prog 71 #[Ao sa po (.slice (some ⟨A,0,none⟩) n n),AR o] w fun e w'=>e=.returned (.tuple #[.int .i64 (i:Int),.bool b])∧w.grownBy w' none:=by
 obtain rfl:=Own.rdk ow
 rw[←hm] at hv hb hi
 exact M1 hsa hpo ho ⟨ow.sb,kr⟩ hv hb hi
theorem AEb (ks:List VK) (ao:Option Addr) (cap:Nat) (sa po:List Nat) (hsa:Dg sa) (hpo:Dg po) (o:List Nat) (ho:Dg o) (T:List Nd) (hT:tree (kd 275 po) []=T) (w:World) (hr:RdK w (.slice ao ks.length cap) ks) :
   Calls Tryz.prog 36 #[Ao sa po (.slice ao ks.length cap),AR o] w fun e w'=>VRes w w' (MS (ks.map VK.p,sa,po) o T (kd 276 po)) (fun _=>False) e:=by
 have hTl:0<T.length:=by rw[←hT,LJ];exact Nat.zero_lt_one
 refine Dn Tryz.func36 rfl Tryz.ntmps36 rfl fun a0 sv0=>?_
 have HG:=World.grownBy.refl w none
 replace sv0:Sv 47 [] [(0,Ao sa po (.slice ao ks.length cap)),(1,AR o)] a0:=sv0
 refine ALl fun K1 k1=>?_
 refine ALk ?_
 refine Bm sv0 r6 (BR hsa hpo (.slice ao ks.length cap) rfl) fun a2 w2 Cf DV g2 z2 AJ sv2=>?_
 have Ey:=B7 HG DV
 refine Bm sv2 r6 (CB o ho.1) fun a3 w3 CX FI g3 z3 AL sv3=>?_
 have GD:=Au AJ FI
 replace AJ:=AC g3 AJ
 replace hr:=(hr.kn g2).kn g3
 replace HG:=AA (AA HG g2) g3
 refine Ax (T:=36) (Z:=([bv AS,bv AS,[.slice none 0 0]].flatten)) sv3 rfl rfl rfl (fun a w=>by kernel_rfl) fun a4 w4 Fa B9 g4 z4 AP sv4=>?_
 have A3:=Au AJ B9
 have BO:=Au AL B9
 have CG:=B7 HG B9
 have Bw:=A2 (hr.lt) B9
 replace AJ:=AC g4 AJ
 replace AL:=AC g4 AL
 replace hr:=hr.kn g4
 replace HG:=AA HG g4
 refine Ax (T:=38) (Z:=[.int .i64 0]) sv4 rfl rfl rfl (fun a w=>by kernel_rfl) fun a5 w5 Pk DQ g5 z5 Ak sv5=>?_
 have Br:=Au AJ DQ
 have CR:=Au AL DQ
 have Aq:=Au AP DQ
 have Dt:=B7 HG DQ
 have Di:=A2 (hr.lt) DQ
 replace AJ:=AC g5 AJ
 replace AL:=AC g5 AL
 replace AP:=AC g5 AP
 replace hr:=hr.kn g5
 replace HG:=AA HG g5
 refine AE ?_
 refine k1 _ _ ?_
 refine ALl fun K6 k6=>?_
 refine ALk ?_
 refine E2 sv5 rfl rfl rfl rfl rfl rfl fun a7 sv7=>?_
 refine Ei sv7 rfl (dd:={ target:=.fn (.func 81) #[pt Fa,pt Pk],args:=#[] }) rfl (by have e1:=sv7.ev (x:=.tmp 9) rfl rfl;simp[execOp,resolve,Deferred.ofValue,e1];try rfl) fun a8 sv8=>?_
 refine AE ?_
 refine k6 _ _ ?_
 refine ALl fun K9 k9=>?_
 refine ALl fun K10 k10=>?_
 cases hv:CI (ks.map VK.p)
 · refine ALk ?_
   refine AK sv8 3 [(10,Ao sa po (.slice ao ks.length cap)),(11,.bool false),(12,.bool true)]
     ⟨yl r6 (BR hsa hpo (.slice ao ks.length cap) rfl) AJ,Ad [Ao sa po (.slice ao ks.length cap)] Tryz.func51 (by kernel_rfl) rq4 ⟨(oy rfl rfl),ALr⟩ (As fun W g=>F8 hsa hpo (hr.kn g) hv),Cu r6 (fun _=>Bc),ALr⟩ fun a11 w11 g11 CY=>?_
   refine AE ?_
   refine k10 _ _ ?_
   refine Ar CY rfl rfl ?_
   refine ALl fun K12 k12=>?_
   refine ALk ?_
   replace AJ:=AC g11 AJ
   replace AL:=AC g11 AL
   replace AP:=AC g11 AP
   replace Ak:=AC g11 Ak
   refine AK CY 1 [(13,Ao AS AS (.slice none 0 0))]
     ⟨BV (vs:=[]) rfl rfl trivial trivial (fun _=>bV0 _) (fun _=>rfl),ALr⟩ fun a13 w13 g13 Dh=>?_
   refine Ap Dh r7 (BR AN AN (.slice none 0 0) rfl) (AC g13 AP) (by first|rfl|simp[AY,AI,AQ,AN.1,AN.1]) fun w14 g14 h14=>?_
   replace Ak:=Ah g13 g14 Ak Aq
   refine Ap Dh r7 (Dy 1) Ak rfl fun w15 g15 h15=>?_
   replace AJ:=AX g15 (Ah g13 g14 AJ (Ne.symm A3)) (Ne.symm Br)
   replace AL:=AX g15 (Ah g13 g14 AL (Ne.symm BO)) (Ne.symm CR)
   replace AP:=AX g15 h14 (Ne.symm Aq)
   replace hr:=(((hr.kn g11).kn g13).offR g14 (AU Bw)).offR g15 (AU Di)
   replace HG:=AD (AD (AA (AA HG g11) g13) g14 CG) g15 Dt
   replace Ak:=h15
   refine AE ?_
   refine k12 _ _ ?_
   refine ALo ?_
   repeat refine AM ?_
   refine BK (fn:=Tryz.f36) Dh (BU (p:=4) (q:=5) Tryz.results36 Dh rfl rfl rfl rfl (BR AN AN (.slice none 0 0) rfl) (Dy 1) AP Ak) (Bp Tryz.func81 (by kernel_rfl) rfl _ _) (F6 _ _ _) ?_
   exact VRes.zero (by unfold MS;rw[if_neg (by rw[hv];simp)]) HG
 · obtain⟨i,hi⟩:∃i,pos (ks.map VK.p) o=i:=⟨_,rfl⟩
   have h64:ks.length≤64:=by have:=(Dq.1 hv).1;simpa using this
   have hin:i≤ks.length:=by rw[←hi];simpa using Qu (ks.map VK.p) o
   refine ALk ?_
   refine AK sv8 3 [(10,Ao sa po (.slice ao ks.length cap)),(11,.bool true),(12,.bool false)]
     ⟨yl r6 (BR hsa hpo (.slice ao ks.length cap) rfl) AJ,Ad [Ao sa po (.slice ao ks.length cap)] Tryz.func51 (by kernel_rfl) rq4 ⟨(oy rfl rfl),ALr⟩ (As fun W g=>F8 hsa hpo (hr.kn g) hv),Cu r6 (fun _=>Bc),ALr⟩ fun a16 w16 g16 Cp=>?_
   refine AE ?_
   refine k10 _ _ ?_
   refine Av Cp rfl rfl ?_
   refine ALp ?_
   refine k9 _ _ ?_
   refine ALl fun K17 k17=>?_
   refine ALk ?_
   replace AJ:=AC g16 AJ
   replace AP:=AC g16 AP
   replace Ak:=AC g16 Ak
   replace hr:=hr.kn g16
   refine FH (Cp.st w16) 2 [(14,Sp.is (Ao sa po (.slice ao ks.length cap))),(15,Sp.cln w16.heap.size sa po ks.length (ks.map VK.p))] rfl (by kernel_rfl) (by kernel_rfl) (by kernel_rfl)
     ⟨yl r6 (BR hsa hpo (.slice ao ks.length cap) rfl) AJ,Ad [Ao sa po (.slice ao ks.length cap)] Tryz.func72 (by kernel_rfl) rq4 ⟨(oy rfl rfl),ALr⟩ (Oh hsa hpo hr h64),ALr⟩ fun a18 w18 g18 st18=>?_
   obtain⟨hn18,hd18,e18_14,e18_15,e18_10,e18_11,e18_12,e18_9,e18_5,e18_4,e18_3,e18_2,e18_0,e18_1,-⟩:=st18
   obtain⟨A,ms,e18_15q,hmp,ow,kr,frA,frK⟩:=e18_15
   have fr_ow:∀k,Bi (.slice ((some ⟨A,0,none⟩)) ks.length ks.length) k→w16.heap.size≤k:=fun k hk=>(Option.some.inj hk)▸frA
   have fr_kr:∀k,DI ms k→w16.heap.size≤k:=fun k hk=>(frK k hk).1
   have ap_kr_ow:∀k,DI ms k→¬Bi (.slice ((some ⟨A,0,none⟩)) ks.length ks.length) k:=fun k hk e=>(frK k hk).2 (Option.some.inj e).symm
   have D1:=CA fr_ow AJ
   have EX:=CA fr_ow AP
   have Gl:=CA fr_ow Ak
   have D4:=CA fr_kr AJ
   have Dj:=CA fr_kr AP
   have Ii:=CA fr_kr Ak
   replace AJ:=AC g18 AJ
   have Ca:Sv 47 [{ target:=.fn (.func 81) #[pt Fa,pt Pk],args:=#[] }] [(10,_),(11,_),(12,_),(9,_),(5,_),(4,_),(3,_),(2,_),(0,_),(1,_),(15,_)] a18:=⟨hn18,hd18,e18_10,e18_11,e18_12,e18_9,e18_5,e18_4,e18_3,e18_2,e18_0,e18_1,e18_15q,ALr⟩
   refine Ap Ca r7 (BR hsa hpo (.slice ((some ⟨A,0,none⟩)) ks.length ks.length) rfl) AJ (by first|rfl|simp[AY,AI,AQ,hsa.1,hpo.1,hsa.1,hpo.1]) fun w19 g19 h19=>?_
   replace AL:=AX g19 (AC g18 (AC g16 AL)) GD
   replace AP:=AX g19 (AC g18 AP) A3
   replace Ak:=AX g19 (AC g18 Ak) Br
   replace ow:=ow.offR g19 (AU D1)
   replace kr:=kr.offR g19 (AU D4)
   replace HG:=AD (AA (AA HG g16) g18) g19 Ey
   replace AJ:=h19
   refine AE ?_
   refine k17 _ _ ?_
   refine ALl fun K20 k20=>?_
   have hml:ks.length=ms.length:=Own.rdk ow
   cases hf:Gx (ks.map VK.p) o
   · refine ALk ?_
     refine AK Ca 6 [(17,Ao sa po (.slice ((some ⟨A,0,none⟩)) ks.length ks.length)),(18,AR o),(19,.tuple #[.int .i64 ((i:Int)),.bool false]),(16,.tuple #[.int .i64 ((i:Int)),.bool false]),(20,.int .i64 ((i:Int))),(21,.bool false)]
       ⟨yl r6 (BR hsa hpo (.slice ((some ⟨A,0,none⟩)) ks.length ks.length) rfl) AJ,yl r6 (CB o ho.1) AL,Ad [Ao sa po (.slice ((some ⟨A,0,none⟩)) ks.length ks.length),AR o] Tryz.func71 (by kernel_rfl) rq4 ⟨(oy rfl rfl),(oy rfl rfl),ALr⟩ (As fun W g=>Xk hsa hpo ho hmp (ow.kn g) (kr.1.kn g) hv hf hi),ym r5,BE rq4 (fun _ _ h=>⟨_,_,h,rfl,rfl⟩),BE rq4 (fun _ _ h=>⟨_,_,h,rfl,rfl⟩),ALr⟩ fun a21 w21 g21 Db=>?_
     refine Aa (v:=.int .i64 ((i:Int))) Db r6 fun a22 Cv=>?_
     refine Aa (v:=.bool false) Cv r6 fun a23 Cy=>?_
     have Cn:Sv _ _ [_,_,_,_,_,_,_,_,_,_,_,_,_] _:=Cy.dl [17,18,19,16,20,21]
     refine AE ?_
     refine k20 _ _ ?_
     refine ALl fun K25 k25=>?_
     refine ALl fun K26 k26=>?_
     refine ALk ?_
     refine AK Cn 1 [(22,.bool false)]
       ⟨ym r5,ALr⟩ fun a27 w27 g27 Gj=>?_
     have Z5:=AA g21 g27
     refine AE ?_
     refine k26 _ _ ?_
     refine Av Gj rfl rfl ?_
     refine ALp ?_
     refine k25 _ _ ?_
     refine ALl fun K28 k28=>?_
     refine ALl fun K29 k29=>?_
     replace AJ:=AC Z5 AJ
     replace AL:=AC Z5 AL
     replace AP:=AC Z5 AP
     replace Ak:=AC Z5 Ak
     replace ow:=ow.kn Z5
     replace kr:=kr.kn Z5
     replace HG:=AA HG Z5
     by_cases hfull:64≤ks.length
     · refine ALk ?_
       refine AK Gj 4 [(24,pk Cf 64),(25,.slice ((some ⟨A,0,none⟩)) ks.length ks.length),(26,.int .i64 ((ks.length:Nat))),(27,.bool true)]
        ⟨yf r6 (fun _=>by kernel_rfl),yp (i:=2) r6 (EC (.slice ((some ⟨A,0,none⟩)) ks.length ks.length) rfl) AJ rfl (by simp[AI,AQ,hsa.1,hpo.1]),Bv (Tryz.underlying34) rfl rfl trivial (oy rfl rfl) (fun _=>rfl),Cq r6 (fun _=>FQ (decide_eq_true (by omega))),ALr⟩ fun a30 w30 g30 Es=>?_
       refine AE ?_
       refine k29 _ _ ?_
       refine Ar Es rfl rfl ?_
       refine ALl fun K31 k31=>?_
       refine ALk ?_
       replace AJ:=AC g30 AJ
       replace AL:=AC g30 AL
       replace AP:=AC g30 AP
       replace Ak:=AC g30 Ak
       refine AK Es 1 [(28,Ao AS AS (.slice none 0 0))]
        ⟨BV (vs:=[]) rfl rfl trivial trivial (fun _=>bV0 _) (fun _=>rfl),ALr⟩ fun a32 w32 g32 Ck=>?_
       refine Ap Ck r7 (BR AN AN (.slice none 0 0) rfl) (AC g32 AP) (by first|rfl|simp[AY,AI,AQ,AN.1,AN.1]) fun w33 g33 h33=>?_
       replace Ak:=Ah g32 g33 Ak Aq
       refine Ap Ck r7 (Dy 8) Ak rfl fun w34 g34 h34=>?_
       replace AJ:=AX g34 (Ah g32 g33 AJ (Ne.symm A3)) (Ne.symm Br)
       replace AL:=AX g34 (Ah g32 g33 AL (Ne.symm BO)) (Ne.symm CR)
       replace AP:=AX g34 h33 (Ne.symm Aq)
       replace ow:=(((ow.kn g30).kn g32).offR g33 (AU EX)).offR g34 (AU Gl)
       replace kr:=(((kr.kn g30).kn g32).offR g33 (AU Dj)).offR g34 (AU Ii)
       replace HG:=AD (AD (AA (AA HG g30) g32) g33 CG) g34 Dt
       replace Ak:=h34
       refine AE ?_
       refine k31 _ _ ?_
       refine ALo ?_
       repeat refine AM ?_
       refine BK (fn:=Tryz.f36) Ck (BU (p:=4) (q:=5) Tryz.results36 Ck rfl rfl rfl rfl (BR AN AN (.slice none 0 0) rfl) (Dy 8) AP Ak) (Bp Tryz.func81 (by kernel_rfl) rfl _ _) (F6 _ _ _) ?_
       exact VRes.zero (by unfold MS;rw[if_pos hv,if_neg (by rw[hf];simp),if_pos (by simpa using hfull)]) HG
     · refine ALk ?_
       refine AK Gj 4 [(24,pk Cf 64),(25,.slice ((some ⟨A,0,none⟩)) ks.length ks.length),(26,.int .i64 ((ks.length:Nat))),(27,.bool false)]
        ⟨yf r6 (fun _=>by kernel_rfl),yp (i:=2) r6 (EC (.slice ((some ⟨A,0,none⟩)) ks.length ks.length) rfl) AJ rfl (by simp[AI,AQ,hsa.1,hpo.1]),Bv (Tryz.underlying34) rfl rfl trivial (oy rfl rfl) (fun _=>rfl),Cq r6 (fun _=>FQ (decide_eq_false (by omega))),ALr⟩ fun a35 w35 g35 Jr=>?_
       refine AE ?_
       refine k29 _ _ ?_
       refine Av Jr rfl rfl ?_
       refine ALp ?_
       refine k28 _ _ ?_
       refine ALl fun K36 k36=>?_
       replace AJ:=AC g35 AJ
       replace AL:=AC g35 AL
       replace AP:=AC g35 AP
       replace Ak:=AC g35 Ak
       replace ow:=ow.kn g35
       replace kr:=kr.kn g35
       replace HG:=AA HG g35
       refine DU (Jr.st w35) (by kernel_rfl) 7 [(29,Sp.is (AR o)),(30,Sp.is (pk Cf 32)),(31,Sp.is (AR po)),(32,Sp.is (AR ((kd 275 po)))),(33,Sp.ct w35.heap.size T),(34,Sp.ck w35.heap.size o T),(8,Sp.new w35.heap.size (([bv AS,[.slice none 0 0]].flatten)) 58)] rfl (by kernel_rfl) (by kernel_rfl) (by kernel_rfl) [] (by kernel_rfl)
        ⟨yl r6 (CB o ho.1) AL,yf r6 (fun _=>by kernel_rfl),yp (i:=1) r6 (CB po hpo.1) AJ rfl (by simp[AI,AQ,hsa.1,hpo.1]),Ad [.int .u64 275,AR po,.slice none 0 0] Tryz.func66 (by kernel_rfl) rq4 ⟨rfl,(oy rfl rfl),rfl,ALr⟩ (As fun W g=>NX (n:=275) (by decide) rfl hpo W),Ad [AR ((kd 275 po))] Tryz.func82 (by kernel_rfl) rq4 ⟨(oy rfl rfl),ALr⟩ (AGU (Bb _ _) hT),MB rfl rfl trivial rfl (fun W _ av h=>match av,h with|[u,t],⟨h1,h2,_⟩=>AEH ho h1 h2),LR rfl trivial (Nat.le_refl _) (fun a w=>by kernel_rfl) (fun _ _ h=>h),ALr⟩ trivial
        [8] (by kernel_rfl) ⟨Sp.new_lt,ALr⟩ ⟨.inl rfl,.inl rfl,.inl rfl,.inl rfl,.inl rfl,.inl rfl,.inr ⟨rfl,(([bv AS,[.slice none 0 0]].flatten)).toArray,58,fun a w=>by kernel_rfl⟩,ALr⟩ (by kernel_rfl) fun a37 w37 g37 st37 nd37=>?_
       obtain⟨hn37,hd37,e37_29,e37_30,e37_31,e37_32,e37_33,e37_34,e37_8,e37_24,e37_25,e37_26,e37_27,e37_22,e37_7,e37_6,e37_10,e37_11,e37_12,e37_9,e37_5,e37_4,e37_3,e37_2,e37_0,e37_1,e37_15,-⟩:=st37
       obtain⟨y,e37_34q,hyo,hyl,rt,frB⟩:=e37_34
       obtain⟨AJu,e37_8q,Ij,RH⟩:=e37_8
       have Sy:=Ga AJ Ij
       have Sz:=Ga AL Ij
       have S4:=Ga AP Ij
       have S5:=Ga Ak Ij
       have AEc:=UA HG Ij
       have Xl:=Jn (Own.ltS ow) Ij
       have Xm:=Jn (kr.lt) Ij
       have KJ:=CA frB AJ
       have Ik:=CA frB AP
       have Z7:=CA frB Ak
       have Xn:=rt.2.ap RH (by decide)
       have IG:Sv 47 [{ target:=.fn (.func 81) #[pt Fa,pt Pk],args:=#[] }] [(24,_),(25,_),(26,_),(27,_),(22,_),(7,_),(6,_),(10,_),(11,_),(12,_),(9,_),(5,_),(4,_),(3,_),(2,_),(0,_),(1,_),(15,_),(34,_),(8,_)] a37:=⟨hn37,hd37,e37_24,e37_25,e37_26,e37_27,e37_22,e37_7,e37_6,e37_10,e37_11,e37_12,e37_9,e37_5,e37_4,e37_3,e37_2,e37_0,e37_1,e37_15,e37_34q,e37_8q,ALr⟩
       refine Ap IG r7 (Uq y) RH (by first|rfl|simp[AY,AI,AQ,y.ho.1]) fun w38 g38 h38=>?_
       replace AJ:=AX g38 (AC g37 AJ) (Ne.symm Sy)
       replace AL:=AX g38 (AC g37 AL) (Ne.symm Sz)
       replace AP:=AX g38 (AC g37 AP) (Ne.symm S4)
       replace Ak:=AX g38 (AC g37 Ak) (Ne.symm S5)
       replace HG:=AD (AA HG g37) g38 AEc
       replace RH:=h38
       refine AE ?_
       refine k36 _ _ ?_
       refine ALl fun K39 k39=>?_
       refine ALk ?_
       refine FH (IG.st w38) 5 [(35,Sp.is (pk Cf 64)),(36,Sp.is (.slice ((some ⟨A,0,none⟩)) ks.length ks.length)),(37,Sp.is (.int .i64 ((i:Int)))),(38,Sp.is (Hp y)),(39,Sp.lit1 w38.heap.size 58 (AY y))] rfl (by kernel_rfl) (by kernel_rfl) (by kernel_rfl)
        ⟨yf r6 (fun _=>by kernel_rfl),yp (i:=2) r6 (EC (.slice ((some ⟨A,0,none⟩)) ks.length ks.length) rfl) AJ rfl (by simp[AI,AQ,hsa.1,hpo.1]),ym r5,yl r6 (Uq y) RH,QI rfl rfl trivial (Nat.le_refl _) rfl (fun W hw v h=>match v,h with|_,⟨rfl,_⟩=>⟨AY y,AJo y W,fun w' _ hh=>⟨_,rfl,hw.size,hh⟩⟩),ALr⟩ fun a40 w40 g40 st40=>?_
       obtain⟨hn40,hd40,e40_35,e40_36,e40_37,e40_38,e40_39,e40_24,e40_25,e40_26,e40_27,e40_22,e40_7,e40_6,e40_10,e40_11,e40_12,e40_9,e40_5,e40_4,e40_3,e40_2,e40_0,e40_1,e40_15,e40_34,e40_8,-⟩:=st40
       obtain⟨V,e40_39q,geV,HV⟩:=e40_39
       have Oi:V≠Cf:=Nat.ne_of_gt (Nat.lt_of_lt_of_le (Array.getElem?_eq_some_iff.1 AJ).1 geV)
       have ACa:V≠CX:=Nat.ne_of_gt (Nat.lt_of_lt_of_le (Array.getElem?_eq_some_iff.1 AL).1 geV)
       have UJ:V≠Fa:=Nat.ne_of_gt (Nat.lt_of_lt_of_le (Array.getElem?_eq_some_iff.1 AP).1 geV)
       have ACb:V≠Pk:=Nat.ne_of_gt (Nat.lt_of_lt_of_le (Array.getElem?_eq_some_iff.1 Ak).1 geV)
       have AIf:V≠AJu:=Nat.ne_of_gt (Nat.lt_of_lt_of_le (Array.getElem?_eq_some_iff.1 RH).1 geV)
       have lo_V:w.heap.size≤V:=Nat.le_trans HG.size geV
       replace AJ:=AC g40 AJ
       replace AP:=AC g40 AP
       replace Ak:=AC g40 Ak
       replace ow:=((ow.kn g37).offR g38 (AU Xl)).kn g40
       have I3:Sv 47 [{ target:=.fn (.func 81) #[pt Fa,pt Pk],args:=#[] }] [(24,_),(25,_),(26,_),(27,_),(22,_),(7,_),(6,_),(10,_),(11,_),(12,_),(9,_),(5,_),(4,_),(3,_),(2,_),(0,_),(1,_),(15,_),(34,_),(8,_),(36,_),(37,_),(39,_)] a40:=⟨hn40,hd40,e40_24,e40_25,e40_26,e40_27,e40_22,e40_7,e40_6,e40_10,e40_11,e40_12,e40_9,e40_5,e40_4,e40_3,e40_2,e40_0,e40_1,e40_15,e40_34,e40_8,e40_36,e40_37,e40_39q,ALr⟩
       refine FH (I3.st w40) 2 [(40,Sp.insr w40.heap.size (ks.length+1) (ms.take i++y::ms.drop i)),(41,Sp.is (pk Cf 64))] rfl (by kernel_rfl) (by kernel_rfl) (by kernel_rfl)
        ⟨Ad [.slice ((some ⟨A,0,none⟩)) ks.length ks.length,.int .i64 ((i:Int)),.slice ((some ⟨V,0,none⟩)) 1 1] Tryz.func83 (by kernel_rfl) rq4 ⟨(oy rfl rfl),(oy rfl rfl),(oy rfl rfl),ALr⟩ (AIe hml ow HV hin h64),yf r6 (fun _=>by kernel_rfl),ALr⟩ fun a41 w41 g41 st41=>?_
       obtain⟨hn41,hd41,e41_40,e41_41,e41_24,e41_25,e41_26,e41_27,e41_22,e41_7,e41_6,e41_10,e41_11,e41_12,e41_9,e41_5,e41_4,e41_3,e41_2,e41_0,e41_1,e41_15,e41_34,e41_8,e41_36,e41_37,e41_39,-⟩:=st41
       obtain⟨ai,ci,e41_40q,oi,fri⟩:=e41_40
       have RI:=CA fri AJ
       have Z8:=CA fri AP
       have Z9:=CA fri Ak
       replace AJ:=AC g41 AJ
       have Et:Sv 47 [{ target:=.fn (.func 81) #[pt Fa,pt Pk],args:=#[] }] [(24,_),(25,_),(26,_),(27,_),(22,_),(7,_),(6,_),(10,_),(11,_),(12,_),(9,_),(5,_),(4,_),(3,_),(2,_),(0,_),(1,_),(15,_),(34,_),(8,_),(36,_),(37,_),(39,_),(40,_),(41,_)] a41:=⟨hn41,hd41,e41_24,e41_25,e41_26,e41_27,e41_22,e41_7,e41_6,e41_10,e41_11,e41_12,e41_9,e41_5,e41_4,e41_3,e41_2,e41_0,e41_1,e41_15,e41_34,e41_8,e41_36,e41_37,e41_39,e41_40q,e41_41,ALr⟩
       refine LP (L:=[bv sa,bv po,[.slice ((some ⟨A,0,none⟩)) ks.length ks.length]]) (i:=2) Et r7 (EC (.slice ai (ks.length+1) ci) rfl) AJ rfl (by simp[AI,AQ,hsa.1,hpo.1]) rfl fun w42 g42 h42=>?_
       replace AL:=AX g42 (AC g41 (AC g40 AL)) GD
       replace AP:=AX g42 (AC g41 AP) A3
       replace Ak:=AX g42 (AC g41 Ak) Br
       replace HV:=AX g42 (AC g41 HV) Oi
       replace AJ:=h42
       have I6:Sv _ _ [_,_,_,_,_,_,_,_,_,_,_,_,_,_,_,_,_,_,_] _:=Et.dl [6,36,37,39,40,41]
       refine AE ?_
       refine k39 _ _ ?_
       refine ALl fun K44 k44=>?_
       refine ALk ?_
       refine AK I6 4 [(42,pk Cf 32),(43,AR po),(44,AR ((kd 276 po))),(45,pk Cf 32)]
        ⟨yf r6 (fun _=>by kernel_rfl),yp (i:=1) r6 (CB po hpo.1) AJ rfl (by simp[AI,AQ,hsa.1,hpo.1]),Ad [.int .u64 276,AR po,.slice none 0 0] Tryz.func66 (by kernel_rfl) rq4 ⟨rfl,(oy rfl rfl),rfl,ALr⟩ (As fun W g=>NX (n:=276) (by decide) rfl hpo W),yf r6 (fun _=>by kernel_rfl),ALr⟩ fun a45 w45 g45 FT=>?_
       refine LP (L:=[bv sa,bv po,[.slice ai (ks.length+1) ci]]) (i:=1) FT r7 (CB ((kd 276 po)) (Bb _ _).1) (AC g45 AJ) rfl (by simp[AI,AQ,hsa.1,hpo.1]) (ABE hpo (Bb _ _)) fun w46 g46 h46=>?_
       replace AP:=Ah g45 g46 AP A3
       replace AJ:=h46
       have MV:Sv _ _ [_,_,_,_,_,_,_,_,_,_,_,_,_,_,_,_,_,_,_] _:=FT.dl [42,43,44,45]
       refine AE ?_
       refine k44 _ _ ?_
       refine ALl fun K48 k48=>?_
       refine ALk ?_
       refine AK MV 1 [(46,Ao sa ((kd 276 po)) (.slice ai (ks.length+1) ci))]
        ⟨yl r6 (BR hsa (Bb _ _) (.slice ai (ks.length+1) ci) rfl) AJ,ALr⟩ fun a49 w49 g49 KF=>?_
       refine Ap KF r7 (BR hsa (Bb _ _) (.slice ai (ks.length+1) ci) rfl) (AC g49 AP) (by first|rfl|simp[AY,AI,AQ,hsa.1,(Bb _ _).1]) fun w50 g50 h50=>?_
       replace Ak:=Ah g49 g50 (Ah g45 g46 Ak Br) Aq
       refine Ap KF r7 (Dy 0) Ak rfl fun w51 g51 h51=>?_
       replace AJ:=AX g51 (Ah g49 g50 AJ (Ne.symm A3)) (Ne.symm Br)
       replace AL:=AX g51 (Ah g49 g50 (Ah g45 g46 AL GD) (Ne.symm BO)) (Ne.symm CR)
       replace AP:=AX g51 h50 (Ne.symm Aq)
       replace HV:=AX g51 (Ah g49 g50 (Ah g45 g46 HV Oi) UJ) ACb
       replace ow:=((((((ow.kn g41).offR g42 (AU D1)).kn g45).offR g46 (AU D1)).kn g49).offR g50 (AU EX)).offR g51 (AU Gl)
       replace kr:=(((((((((kr.kn g37).offR g38 (AU Xm)).kn g40).kn g41).offR g42 (AU D4)).kn g45).offR g46 (AU D4)).kn g49).offR g50 (AU Dj)).offR g51 (AU Ii)
       replace rt:=((((((((rt.offR g38 (AU Xn)).kn g40).kn g41).offR g42 (AU KJ)).kn g45).offR g46 (AU KJ)).kn g49).offR g50 (AU Ik)).offR g51 (AU Z7)
       replace oi:=(((((oi.offR g42 (AU RI)).kn g45).offR g46 (AU RI)).kn g49).offR g50 (AU Z8)).offR g51 (AU Z9)
       replace HG:=AD (AD (AA (AD (AA (AD (AA (AA HG g40) g41) g42 Ey) g45) g46 Ey) g49) g50 CG) g51 Dt
       replace Ak:=h51
       refine AE ?_
       refine k48 _ _ ?_
       refine ALo ?_
       repeat refine AM ?_
       refine BK (fn:=Tryz.f36) KF (BU (p:=4) (q:=5) Tryz.results36 KF rfl rfl rfl rfl (BR hsa (Bb _ _) (.slice ai (ks.length+1) ci) rfl) (Dy 0) AP Ak) (Bp Tryz.func81 (by kernel_rfl) rfl _ _) (F6 _ _ _) ?_
       exact VRes.mk (P:=Ms (ks.map VK.p) o T) (by unfold MS;rw[if_pos hv,if_neg (by rw[hf];simp),if_neg (by simpa using hfull)]) (AGg hmp hi hyo hyl) oi (KsT.ins kr rt i) HG
   · refine ALk ?_
     refine AK Ca 6 [(17,Ao sa po (.slice ((some ⟨A,0,none⟩)) ks.length ks.length)),(18,AR o),(19,.tuple #[.int .i64 ((i:Int)),.bool true]),(16,.tuple #[.int .i64 ((i:Int)),.bool true]),(20,.int .i64 ((i:Int))),(21,.bool true)]
       ⟨yl r6 (BR hsa hpo (.slice ((some ⟨A,0,none⟩)) ks.length ks.length) rfl) AJ,yl r6 (CB o ho.1) AL,Ad [Ao sa po (.slice ((some ⟨A,0,none⟩)) ks.length ks.length),AR o] Tryz.func71 (by kernel_rfl) rq4 ⟨(oy rfl rfl),(oy rfl rfl),ALr⟩ (As fun W g=>Xk hsa hpo ho hmp (ow.kn g) (kr.1.kn g) hv hf hi),ym r5,BE rq4 (fun _ _ h=>⟨_,_,h,rfl,rfl⟩),BE rq4 (fun _ _ h=>⟨_,_,h,rfl,rfl⟩),ALr⟩ fun a52 w52 g52 Uz=>?_
     refine Aa (v:=.int .i64 ((i:Int))) Uz r6 fun a53 Xo=>?_
     refine Aa (v:=.bool true) Xo r6 fun a54 E8=>?_
     have I7:Sv _ _ [_,_,_,_,_,_,_,_,_,_,_,_,_] _:=E8.dl [17,18,19,16,20,21]
     refine AE ?_
     refine k20 _ _ ?_
     refine ALl fun K56 k56=>?_
     refine ALl fun K57 k57=>?_
     refine ALk ?_
     refine AK I7 1 [(22,.bool true)]
       ⟨ym r5,ALr⟩ fun a58 w58 g58 Pm=>?_
     have AJv:=AA g52 g58
     refine AE ?_
     refine k57 _ _ ?_
     refine Ar Pm rfl rfl ?_
     refine ALl fun K59 k59=>?_
     refine ALk ?_
     refine AK Pm 1 [(23,Ao sa po (.slice ((some ⟨A,0,none⟩)) ks.length ks.length))]
       ⟨yl r6 (BR hsa hpo (.slice ((some ⟨A,0,none⟩)) ks.length ks.length) rfl) (AC AJv AJ),ALr⟩ fun a60 w60 g60 AGh=>?_
     have AEd:=AA AJv g60
     refine Ap AGh r7 (BR hsa hpo (.slice ((some ⟨A,0,none⟩)) ks.length ks.length) rfl) (AC AEd AP) (by first|rfl|simp[AY,AI,AQ,hsa.1,hpo.1]) fun w61 g61 h61=>?_
     replace Ak:=Ah AEd g61 Ak Aq
     refine Ap AGh r7 (Dy 0) Ak rfl fun w62 g62 h62=>?_
     replace AP:=AX g62 h61 (Ne.symm Aq)
     replace ow:=((ow.kn AEd).offR g61 (AU EX)).offR g62 (AU Gl)
     replace kr:=((kr.kn AEd).offR g61 (AU Dj)).offR g62 (AU Ii)
     replace HG:=AD (AD (AA HG AEd) g61 CG) g62 Dt
     replace Ak:=h62
     refine AE ?_
     refine k59 _ _ ?_
     refine ALo ?_
     repeat refine AM ?_
     refine BK (fn:=Tryz.f36) AGh (BU (p:=4) (q:=5) Tryz.results36 AGh rfl rfl rfl rfl (BR hsa hpo (.slice ((some ⟨A,0,none⟩)) ks.length ks.length) rfl) (Dy 0) AP Ak) (Bp Tryz.func81 (by kernel_rfl) rfl _ _) (F6 _ _ _) ?_
     exact VRes.mk (P:=ks.map VK.p) (by unfold MS;rw[if_pos hv,if_pos hf]) hmp ow kr HG
end Go.Proofs.YtbfjfnbcmojpiaaGreat
