import Derived.Test.YtbfjfnbcmojpiaaGreatOpSH
import Derived.OrdersHeld
import Derived.Test.YtbfjfnbcmojpiaaGreatOpSG
set_option linter.unusedSimpArgs false
set_option linter.unusedVariables false
set_option maxRecDepth 100000
set_option maxHeartbeats 4000000
namespace Go.Proofs.YtbfjfnbcmojpiaaGreat
open Go.RowKit Go.Shelf
theorem ZC (l:List Nd):(E3 l).all Value.oneCell'=true:=VS l
theorem ADP {w:World} {ao:Option Addr} {n cap j:Nat} {ks:List VK} {x:VK} (h:Sl w 33 (.slice ao n cap) n (ks.flatMap Ax)) (hj:j<ks.length) (hx:ks[j]=x):w.rangeAt (bO ao) (oO ao+j*33) (Ax x):=hx▸Cb h Dc hj (by decide)
theorem ABf  (w:World) :
  Calls Tryz.prog 114 #[.slice none 0 0] w fun e w'=>e=.returned (.slice none 0 0)∧w.grownBy w' none:=by
 refine BV Tryz.func114 rfl Tryz.ntmps114 rfl fun a0 sv0=>?_
 have HG:=World.grownBy.refl w none
 replace sv0:Sv 8 [] [(0,.slice none 0 0)] a0:=sv0
 refine AKQ fun K1 k1=>?_
 refine AKP ?_
 refine AR (v:=.slice none 0 0) sv0 r6 fun a2 sv2=>?_
 refine AE ?_
 refine k1 _ _ ?_
 refine AKQ fun K3 k3=>?_
 refine AKQ fun K4 k4=>?_
 refine AKP ?_
 refine AJ sv2 2 [(3,.slice none 0 0),(4,.bool true)]
  ⟨ym r5,Cp r6 (fun _=>TC Tryz.underlying54 rfl),AKW⟩ fun a5 w5 g5 sv5=>?_
 refine AE ?_
 refine k4 _ _ ?_
 refine Ar sv5 rfl rfl ?_
 refine AKQ fun K6 k6=>?_
 refine AKP ?_
 refine AR (v:=.slice none 0 0) sv5 r6 fun a7 sv7=>?_
 refine AE ?_
 refine k6 _ _ ?_
 replace HG:=AA HG g5
 refine AKT ?_
 repeat refine AK ?_
 refine Aw (fn:=Tryz.f114) sv7 (BC (p:=2) Tryz.results114 sv7 rfl rfl) ?_
 exact⟨rfl,HG⟩
theorem ZD (l:List Nd) (ad:Addr) (cap:Nat) (w:World) (h:RdT w (.slice ((some ad)) l.length cap) l) :
  Calls Tryz.prog 114 #[.slice ((some ad)) l.length cap] w fun e w'=>∃ao cap,e=.returned (.slice ao l.length cap)∧RdTg w' (.slice ao l.length cap) l∧(∀k,Nw (.slice ao l.length cap) k→w.heap.size≤k)∧w.grownBy w' none:=by
 refine BV Tryz.func114 rfl Tryz.ntmps114 rfl fun a0 sv0=>?_
 have HG:=World.grownBy.refl w none
 replace sv0:Sv 8 [] [(0,.slice ((some ad)) l.length cap)] a0:=sv0
 refine AKQ fun K1 k1=>?_
 refine AKP ?_
 refine AR (v:=.slice none 0 0) sv0 r6 fun a2 sv2=>?_
 refine AE ?_
 refine k1 _ _ ?_
 refine AKQ fun K3 k3=>?_
 refine AKQ fun K4 k4=>?_
 refine AKP ?_
 refine AJ sv2 2 [(3,.slice ((some ad)) l.length cap),(4,.bool false)]
  ⟨ym r5,Cp r6 (fun _=>TC Tryz.underlying54 rfl),AKW⟩ fun a5 w5 g5 sv5=>?_
 refine AE ?_
 refine k4 _ _ ?_
 refine A2 sv5 rfl rfl ?_
 refine AKU ?_
 refine k3 _ _ ?_
 refine AKQ fun K6 k6=>?_
 refine AKP ?_
 replace h:=h.kn g5
 replace HG:=AA HG g5
 refine Ic (sv5.st w5) 3 [(5,Sp.lit0 w5.heap.size 132),(6,Sp.is (.slice ((some ad)) l.length cap)),(7,Sp.row w5.heap.size 132 34 l.length (E3 l))] rfl (by kernel_rfl) (by kernel_rfl) (by kernel_rfl)
  ⟨AAV (t:=0) rfl trivial (Nat.le_refl _) (fun a w=>by kernel_rfl) (fun _ _ h=>h),ym r5,AAW (news:=E3 l) AG9 rfl rfl trivial rfl (fun _ _ h=>h) (oy rfl rfl) (fun _ g=>(h.kn g).1) (ZC l) h.2.2.2 (Nat.le_refl _) (fun _ _ h=>h),AKW⟩ fun a7 w7 g7 st7=>?_
 obtain⟨hn7,hd7,e7_5,e7_6,e7_7,e7_3,e7_4,e7_2,e7_0,-⟩:=st7
 obtain⟨ao8,cap8,e7_7q,ow8,fr8⟩:=e7_7
 have ZE:=JG HG fr8
 replace h:=h.kn g7
 replace HG:=AA HG g7
 have sv7:Sv 8 [] [(3,_),(4,_),(2,_),(0,_),(7,_)] a7:=⟨hn7,hd7,e7_3,e7_4,e7_2,e7_0,e7_7q,AKW⟩
 refine AR (v:=.slice ao8 l.length cap8) sv7 r6 fun a9 sv9=>?_
 refine AE ?_
 refine k6 _ _ ?_
 refine AKT ?_
 repeat refine AK ?_
 refine Aw (fn:=Tryz.f114) sv9 (BC (p:=2) Tryz.results114 sv9 rfl rfl) ?_
 exact⟨_,_,rfl,⟨⟨Sl.of_own ow8,h.2.1,fun k hk=>Own.lt ow8 k hk.1,h.2.2.2⟩,Tag.of ow8⟩,fun k hk=>ZE k hk.1,HG⟩
theorem ZF {l:List Nd} {s:Value} {w:World} (h:RdT w s l):Calls Tryz.prog 114 #[s] w fun e w'=>∃ao cap,e=.returned (.slice ao l.length cap)∧RdTg w' (.slice ao l.length cap) l∧(∀k,Nw (.slice ao l.length cap) k→w.heap.size≤k)∧w.grownBy w' none:=by
 obtain⟨ao,cap,rfl⟩:=h.shape
 cases ao with
 | some ad=>exact ZD l ad cap w h
 | none =>
  have h0:l.length=0∧cap=0:=by
   obtain⟨⟨_,ao',cap',e,h1,_,h3,_⟩,_⟩:=h
   simp only[Value.slice.injEq,true_and] at e
   obtain⟨rfl,rfl⟩:=e
   have:=h3 rfl
   omega
  obtain⟨h1,rfl⟩:=h0
  obtain rfl:l=[]:=List.eq_nil_of_length_eq_zero h1
  exact(ABf w).mono fun e w' ⟨h1,h2⟩=>⟨none,0,h1,⟨h.kn h2,fun k hk=>(Sb k hk).elim⟩,fun k hk=>(Sb k hk).elim,h2⟩
theorem ADQ {w0:World} {l:List Nd} {s:Value} (h:RdT w0 s l):∀W,w0.grownBy W none→Calls Tryz.prog 114 #[s] W fun e W'=>∃v,e=.returned v∧W.grownBy W' none∧(Sp.cl w0.heap.size l).on W' v:=fun W g =>
 (ZF (h.kn g)).mono fun e W' ⟨ao,cap,h1,h2,h3,h4⟩=>⟨_,h1,h4,ao,cap,rfl,h2,fun k hk=>Nat.le_trans g.size (h3 k hk)⟩
theorem Vx (ks:List VK) (ao:Option Addr) (cap:Nat) (sa po:List Nat) (hsa:Dg sa) (hpo:Dg po) (w:World) (hr:RdK w (.slice ao ks.length cap) ks) (h64:ks.length≤64) :
   Calls Tryz.prog 72 #[A8 sa po (.slice ao ks.length cap)] w fun e w'=>∃A ms,e=.returned (A8 sa po (.slice (some ⟨A,0,none⟩) ks.length ks.length))∧ms.map VK.p=ks.map VK.p∧Own w' 58 33 (.slice (some ⟨A,0,none⟩) ks.length ks.length) ks.length (ms.flatMap Ax)∧KsT w' ms∧w.heap.size≤A∧(∀k,Hb ms k→w.heap.size≤k∧k≠A)∧w.grownBy w' none:=by
 refine BV Tryz.func72 rfl Tryz.ntmps72 rfl fun a0 sv0=>?_
 have HG:=World.grownBy.refl w none
 replace sv0:Sv 33 [] [(0,A8 sa po (.slice ao ks.length cap))] a0:=sv0
 refine AKQ fun K1 k1=>?_
 refine AKP ?_
 refine Be sv0 r6 (CX hsa hpo (.slice ao ks.length cap) rfl) fun a2 w2 CE LB g2 z2 Ae sv2=>?_
 have AFe:=Bq HG LB
 replace HG:=AA HG g2
 refine BB (T:=36) (Z:=([bv AS,bv AS,[.slice none 0 0]].flatten)) sv2 rfl rfl rfl (fun a w=>by kernel_rfl) fun a3 w3 ZA OZ g3 z3 EH sv3=>?_
 have TR:=As Ae OZ
 have TP:=Bq HG OZ
 replace Ae:=AC g3 Ae
 replace hr:=(hr.kn g2).kn g3
 replace HG:=AA HG g3
 refine AE ?_
 refine k1 _ _ ?_
 refine AKQ fun K4 k4=>?_
 refine AKP ?_
 refine Ic (sv3.st w3) 4 [(6,Sp.is (pk CE 64)),(7,Sp.is (.slice ao ks.length cap)),(8,Sp.is (.int .i64 ((ks.length:Nat)))),(9,Sp.made w3.heap.size 58 33 ks.length ((List.replicate ks.length PD).flatMap Ax))] rfl (by kernel_rfl) (by kernel_rfl) (by kernel_rfl)
   ⟨yf r6 (fun _=>by kernel_rfl),yp (i:=2) r6 (Dd (.slice ao ks.length cap) rfl) Ae rfl (by simp[AO,Ac,hsa.1,hpo.1]),Au (Tryz.underlying34) rfl rfl trivial (oy rfl rfl) (fun _=>rfl),AFU (m:=ks.length) (xs:=(List.replicate ks.length PD).flatMap Ax) ADK rfl rfl trivial (Nat.le_refl _) (oy rfl rfl) (by omega) (AIY _).symm (fun _ _ h=>h),AKW⟩ fun a5 w5 g5 st5=>?_
 obtain⟨hn5,hd5,e5_6,e5_7,e5_8,e5_9,e5_2,e5_1,e5_0,-⟩:=st5
 obtain⟨A,e5_9q,ow,geA⟩:=e5_9
 have frA:∀k,Ba (.slice ((some ⟨A,0,none⟩)) ks.length ks.length) k→w3.heap.size≤k:=fun k hk=>(Option.some.inj hk)▸geA
 have IH:=DK frA Ae
 have II:=DK frA EH
 have ap_hr_ow:=AIX (hr.lt) frA
 have lo_ow:=JG HG frA
 replace Ae:=AC g5 Ae
 have sv5:Sv 33 [] [(2,_),(1,_),(0,_),(9,_)] a5:=⟨hn5,hd5,e5_2,e5_1,e5_0,e5_9q,AKW⟩
 refine AR (v:=.slice ((some ⟨A,0,none⟩)) ks.length ks.length) sv5 r6 fun a6 sv6=>?_
 refine AE ?_
 refine k4 _ _ ?_
 refine AKQ fun K7 k7=>?_
 refine AKQ fun K8 k8=>?_
 refine AKP ?_
 refine AJ sv6 4 [(10,pk CE 64),(11,.slice ao ks.length cap),(12,.int .i64 ((ks.length:Nat))),(13,.int .i64 0)]
   ⟨yf r6 (fun _=>by kernel_rfl),yp (i:=2) r6 (Dd (.slice ao ks.length cap) rfl) Ae rfl (by simp[AO,Ac,hsa.1,hpo.1]),Au (Tryz.underlying34) rfl rfl trivial (oy rfl rfl) (fun _=>rfl),En (.inl rfl) rfl trivial (fun _=>rfl),AKW⟩ fun a9 w9 g9 sv9=>?_
 refine AE ?_
 refine k8 _ _ ?_
 refine BI fun Q10 x10 y10 r10 o10=>?_
 replace Ae:=AC g9 Ae
 replace EH:=AC g9 (AC g5 EH)
 replace hr:=(hr.kn g5).kn g9
 replace ow:=ow.kn g9
 replace HG:=AA (AA HG g5) g9
 have kr:=KsT.rep w9 ks.length
 have Jl:∀k,Hb (List.replicate ks.length PD) k→k≠CE:=fun k hk=>(KN _ _ hk).elim
 have Jm:∀k,Hb (List.replicate ks.length PD) k→k≠ZA:=fun k hk=>(KN _ _ hk).elim
 have ap_kr_ow:∀k,Hb (List.replicate ks.length PD) k→¬Ba (.slice ((some ⟨A,0,none⟩)) ks.length ks.length) k:=fun k hk=>(KN _ _ hk).elim
 refine wp_loop (fun a w'=>∃(i:Nat) (ms:List VK),(i≤ks.length)∧(ms.length=ks.length)∧(∀j,j<i→(ms.map VK.p)[j]?=(ks.map VK.p)[j]?)∧(∀k,Hb ms k→w.heap.size≤k)∧Sv 33 [] [(13,.int .i64 ((i:Int))),(10,pk CE 64),(11,.slice ao ks.length cap),(12,.int .i64 ((ks.length:Nat))),(3,.slice ((some ⟨A,0,none⟩)) ks.length ks.length),(2,pt ZA),(1,pt CE),(0,A8 sa po (.slice ao ks.length cap)),(9,.slice ((some ⟨A,0,none⟩)) ks.length ks.length)] a∧w.grownBy w' none∧w'.heap[CE]?=some (.cells ([bv sa,bv po,[.slice ao ks.length cap]].flatten).toArray 36 (0,0))∧w'.heap[ZA]?=some (.cells (([bv AS,bv AS,[.slice none 0 0]].flatten)).toArray 36 (0,0))∧RdK w' (.slice ao ks.length cap) ks∧Own w' 58 33 (.slice ((some ⟨A,0,none⟩)) ks.length ks.length) ks.length (ms.flatMap Ax)∧KsT w' ms∧(∀k,Ba (.slice ((some ⟨A,0,none⟩)) ks.length ks.length) k→k≠CE)∧(∀k,Ba (.slice ((some ⟨A,0,none⟩)) ks.length ks.length) k→k≠ZA)∧(∀k,TH (.slice ao ks.length cap) ks k→¬Ba (.slice ((some ⟨A,0,none⟩)) ks.length ks.length) k)∧(∀k,Hb ms k→¬Ba (.slice ((some ⟨A,0,none⟩)) ks.length ks.length) k)∧(∀k,Ba (.slice ((some ⟨A,0,none⟩)) ks.length ks.length) k→w.heap.size≤k)∧(∀k,Hb ms k→k≠CE)∧(∀k,Hb ms k→k≠ZA)) (fun a _=>(ks.length-intOf (a.tmps.getD 13 undef)).toNat) ⟨0,List.replicate ks.length PD,Nat.zero_le _,by simp,fun j hj=>by omega,fun k hk=>(KN _ _ hk).elim,⟨sv9.1,sv9.2.1,sv9.2.2.2.2.2.1,sv9.2.2.1,sv9.2.2.2.1,sv9.2.2.2.2.1,sv9.2.2.2.2.2.2.1,sv9.2.2.2.2.2.2.2.1,(AL sv9).1,(AL sv9).2.1,(AL sv9).2.2.1,AKW⟩,HG,Ae,EH,hr,ow,kr,IH,II,ap_hr_ow,ap_kr_ow,lo_ow,Jl,Jm⟩ fun a11 w11 hI11=>?_
 clear Ae
 clear EH
 clear hr
 clear ow
 clear kr
 clear HG
 obtain⟨i,ms,hin,hms,hp,hfr,Bv,HG,Ae,EH,hr,ow,kr,IH,II,ap_hr_ow,ap_kr_ow,lo_ow,Jl,Jm⟩:=hI11
 refine AKQ fun K12 k12=>?_
 by_cases hi:i<ks.length
 · obtain⟨x,hx_x⟩:∃x,ks[i]'hi=x:=⟨_,rfl⟩
   have him:i<ms.length:=by omega
   obtain⟨z,hx_z⟩:∃x,ms[i]'him=x:=⟨_,rfl⟩
   refine AKP ?_
   refine AJ Bv 1 [(14,.bool true)]
    ⟨FG r7 (fun _=>BJ (decide_eq_true (by omega))),AKW⟩ fun a13 w13 g13 Cg=>?_
   refine AE ?_
   refine k12 _ _ ?_
   refine AKQ fun K14 k14=>?_
   refine Ar Cg rfl rfl ?_
   refine AKU ?_
   refine k14 _ _ ?_
   refine AKQ fun K15 k15=>?_
   refine BI fun Q16 x16 y16 r16 o16=>?_
   refine AKQ fun K17 k17=>?_
   refine AKP ?_
   replace hr:=hr.kn g13
   refine AJ Cg 3 [(15,.int .i64 ((i:Int))),(16,pk ((bO ao)) (oO ao+i*33)),(17,IB x)]
    ⟨ym r5,BH rq8 (fun w=>CU Tryz.underlying34 (by kernel_rfl) (hr.1.1) (by omega) (rfl) w),Bg r6 (fun _ g=>AY (Yx x) (RdK.keyX (hr.kn g) rfl hi hx_x)),AKW⟩ fun a18 w18 g18 CQ=>?_
   replace Ae:=AC g18 (AC g13 Ae)
   replace EH:=AC g18 (AC g13 EH)
   replace hr:=hr.kn g18
   replace ow:=(ow.kn g13).kn g18
   replace kr:=(kr.kn g13).kn g18
   replace HG:=AA (AA HG g13) g18
   refine BB (T:=58) (Z:=([bv AS,[.slice none 0 0]].flatten)) CQ rfl rfl rfl (fun a w=>by kernel_rfl) fun a19 w19 AAY JL g19 z19 PL Cs=>?_
   have Qd:=As Ae JL
   have Qe:=As EH JL
   have ADR:=Bq HG JL
   have Vy:=Ay (hr.lt) JL
   have Vz:=Ay (Own.ltS ow) JL
   have Nq:=Ay (kr.lt) JL
   refine AR (v:=.int .i64 ((i:Int))) Cs r6 fun a20 DH=>?_
   refine Av DH r7 (Yx x) PL (by first|rfl|simp[Ax,AO,Ac,x.ho.1]) fun w21 g21 h21=>?_
   replace Ae:=AZ g21 (AC g19 Ae) (Ne.symm Qd)
   replace EH:=AZ g21 (AC g19 EH) (Ne.symm Qe)
   replace hr:=(hr.kn g19).offR g21 (AP Vy)
   replace ow:=(ow.kn g19).offR g21 (AP Vz)
   replace HG:=AD (AA HG g19) g21 ADR
   replace PL:=h21
   refine AE ?_
   refine k17 _ _ ?_
   refine Eg (DH.st w21) (by kernel_rfl) 11 [(18,Sp.is (.slice ((some ⟨A,0,none⟩)) ks.length ks.length)),(19,Sp.is (.int .i64 ((i:Int)))),(20,Sp.is (pt AAY)),(21,Sp.is (AQ x.o)),(22,Sp.is (pk AAY 32)),(23,Sp.is (pk AAY 32)),(24,Sp.is (VK.s x)),(25,Sp.cl w21.heap.size x.l),(26,Sp.ct w21.heap.size x.l),(27,Sp.ck w21.heap.size x.o x.l),(28,Sp.is (pk ((bO ((some ⟨A,0,none⟩)))) (oO ((some ⟨A,0,none⟩))+i*33)))] rfl (by kernel_rfl) (by kernel_rfl) (by kernel_rfl) [] (by kernel_rfl)
    ⟨ym r5,ym r5,yf r6 (fun _=>by kernel_rfl),yp (i:=0) r6 (Bb x.o x.ho.1) PL rfl rfl,yf r6 (fun _=>by kernel_rfl),yf r6 (fun _=>by kernel_rfl),yp (i:=1) r6 (AFB (VK.s x) rfl) PL rfl (by simp[AO,Ac,x.ho.1]),Al [VK.s x] Tryz.func114 (by kernel_rfl) rq4 ⟨(oy rfl rfl),AKW⟩ (ADQ (hr.kt hi hx_x)),ND rfl rfl trivial rfl (fun W _ av h=>match av,h with|[u],⟨h1,_⟩=>AIZ h1),ND rfl rfl trivial rfl (fun W _ av h=>match av,h with|[u,t],⟨h1,h2,_⟩=>AGc x.ho h1 h2),BH rq8 (fun w=>CU Tryz.underlying34 (by kernel_rfl) (Sl.of_own ow) (by omega) (rfl) w),AKW⟩ trivial
    [] (by kernel_rfl) trivial ⟨.inl rfl,.inl rfl,.inl rfl,.inl rfl,.inl rfl,.inl rfl,.inl rfl,.inl rfl,.inl rfl,.inl rfl,.inl rfl,AKW⟩ (by kernel_rfl) fun a22 w22 g22 st22 nd22=>?_
   obtain⟨hn22,hd22,e22_18,e22_19,e22_20,e22_21,e22_22,e22_23,e22_24,e22_25,e22_26,e22_27,e22_28,e22_4,e22_5,e22_15,e22_16,e22_17,e22_14,e22_13,e22_10,e22_11,e22_12,e22_3,e22_2,e22_1,e22_0,e22_9,-⟩:=st22
   obtain⟨y,e22_27q,hyo,hyl,rt,frB⟩:=e22_27
   have HG0:=HG
   have ZG:=DK frB Ae
   have ZH:=DK frB EH
   have WA:=DK frB PL
   have ap_rt_ow:=AJV (Own.ltS ow) frB
   replace ow:=ow.kn g22
   have Bu:Sv 33 [] [(4,_),(5,_),(15,_),(16,_),(17,_),(14,_),(13,_),(10,_),(11,_),(12,_),(3,_),(2,_),(1,_),(0,_),(9,_),(27,_),(28,_)] a22:=⟨hn22,hd22,e22_4,e22_5,e22_15,e22_16,e22_17,e22_14,e22_13,e22_10,e22_11,e22_12,e22_3,e22_2,e22_1,e22_0,e22_9,e22_27q,e22_28,AKW⟩
   refine PA (c:=Ax) (el:=y) Bu rfl rfl rfl rfl rfl rfl rfl (Yx y) ow Dc (by decide) (by first|omega|(simp only[List.length_set];omega)) rfl fun w23 g23 h23=>?_
   replace Ae:=AF g23 (AC g22 Ae) (fun e=>IH _ (JX (j:=i) ow (by omega) rfl) (Option.some.inj e).symm)
   replace EH:=AF g23 (AC g22 EH) (fun e=>II _ (JX (j:=i) ow (by omega) rfl) (Option.some.inj e).symm)
   replace hr:=(hr.kn g22).offR g23 (fun k hk e=>ap_hr_ow k hk (JX (j:=i) ow (by omega) e))
   replace kr:=(((kr.kn g19).offR g21 (AP Nq)).kn g22).offR g23 (fun k hk e=>ap_kr_ow k hk (JX (j:=i) ow (by omega) e))
   replace rt:=rt.offR g23 (fun k hk e=>ap_rt_ow k hk (JX (j:=i) ow (by omega) e))
   replace HG:=Ca (AA HG g22) g23 fun k e=>lo_ow k (JX (j:=i) ow (by omega) e)
   refine AE ?_
   have kr2:=KsT.set kr (x:=y) rt i
   have WC:∀k,Hb (ms.set i y) k→k≠CE:=fun k hk=>(JH hk).elim (Jl k) (ZG k)
   have WD:∀k,Hb (ms.set i y) k→k≠ZA:=fun k hk=>(JH hk).elim (Jm k) (ZH k)
   have AFf:∀k,Hb (ms.set i y) k→k≠AAY:=fun k hk=>(JH hk).elim (Nq k) (WA k)
   have ap_kr2_ow:∀k,Hb (ms.set i y) k→¬Ba (.slice ((some ⟨A,0,none⟩)) ks.length ks.length) k:=fun k hk=>(JH hk).elim (ap_kr_ow k) (ap_rt_ow k)
   refine y16 _ _ ?_
   refine k15 _ _ ?_
   refine AKP ?_
   refine AJ Bu 1 [(29,.int .i64 (((i+1:Nat):Int)))]
    ⟨Cp r6 (fun _=>DL (by rw[Bc (by omega) (by omega)];omega)),AKW⟩ fun a24 w24 g24 Du=>?_
   refine AJ (Du.dl [13]) 1 [(13,.int .i64 (((i+1:Nat):Int)))]
    ⟨ym r5,AKW⟩ fun a25 w25 g25 Bz=>?_
   have KQ:=AA g24 g25
   refine AE ?_
   replace Ae:=AC KQ Ae
   replace EH:=AC KQ EH
   replace hr:=hr.kn KQ
   replace ow:=h23.kn KQ
   replace kr2:=kr2.kn KQ
   replace HG:=AA HG KQ
   exact⟨⟨i+1,ms.set i y,by omega,by rw[List.length_set];exact hms,AFV hms hi hx_x hyo hyl hp,fun k hk=>(JH hk).elim (hfr k) fun h=>Nat.le_trans HG0.size (frB k h),⟨Bz.1,Bz.2.1,Bz.2.2.1,(AL Bz).2.2.1,(AL Bz).2.2.2.1,(AL Bz).2.2.2.2.1,(AL Bz).2.2.2.2.2.1,(AL Bz).2.2.2.2.2.2.1,(AL Bz).2.2.2.2.2.2.2.1,(AL (AL Bz)).1,(AL (AL Bz)).2.1,AKW⟩,HG,Ae,EH,hr,ow,kr2,IH,II,ap_hr_ow,ap_kr2_ow,lo_ow,WC,WD⟩,by rw[show _=_ from Bz.2.2.1,show _=_ from Bv.2.2.1];simp[intOf];omega⟩
 · have hall:=AHP hms hi hp
   refine AKP ?_
   refine AJ Bv 1 [(14,.bool false)]
    ⟨FG r7 (fun _=>BJ (decide_eq_false (by omega))),AKW⟩ fun a26 w26 g26 Cy=>?_
   refine AE ?_
   refine k12 _ _ ?_
   refine AKQ fun K27 k27=>?_
   refine A2 Cy rfl rfl ?_
   refine wp_exit ?_
   repeat refine CT ?_
   refine x10 _ _ ?_
   refine k7 _ _ ?_
   refine AKQ fun K28 k28=>?_
   refine AKP ?_
   refine AJ Cy 2 [(30,.slice ((some ⟨A,0,none⟩)) ks.length ks.length),(31,pk CE 64)]
    ⟨ym r5,yf r6 (fun _=>by kernel_rfl),AKW⟩ fun a29 w29 g29 CY=>?_
   have KR:=AA g26 g29
   refine La (L:=[bv sa,bv po,[.slice ao ks.length cap]]) (i:=2) CY r7 (Dd (.slice ((some ⟨A,0,none⟩)) ks.length ks.length) rfl) (AC KR Ae) rfl (by simp[AO,Ac,hsa.1,hpo.1]) rfl fun w30 g30 h30=>?_
   replace EH:=Ag KR g30 EH TR
   replace Ae:=h30
   refine AE ?_
   refine k28 _ _ ?_
   refine AKQ fun K31 k31=>?_
   refine AKP ?_
   refine AJ CY 1 [(32,A8 sa po (.slice ((some ⟨A,0,none⟩)) ks.length ks.length))]
    ⟨yl r6 (CX hsa hpo (.slice ((some ⟨A,0,none⟩)) ks.length ks.length) rfl) Ae,AKW⟩ fun a32 w32 g32 Dm=>?_
   refine Av Dm r7 (CX hsa hpo (.slice ((some ⟨A,0,none⟩)) ks.length ks.length) rfl) (AC g32 EH) (by first|rfl|simp[Ax,AO,Ac,hsa.1,hpo.1]) fun w33 g33 h33=>?_
   replace ow:=(((ow.kn KR).offR g30 (AP IH)).kn g32).offR g33 (AP II)
   replace kr:=(((kr.kn KR).offR g30 (AP Jl)).kn g32).offR g33 (AP Jm)
   replace HG:=AD (AA (AD (AA HG KR) g30 AFe) g32) g33 TP
   replace EH:=h33
   refine AE ?_
   refine k31 _ _ ?_
   refine AKT ?_
   repeat refine AK ?_
   refine Aw (fn:=Tryz.f72) Dm (Dz (p:=2) Tryz.results72 Dm rfl rfl (CX hsa hpo (.slice ((some ⟨A,0,none⟩)) ks.length ks.length) rfl) EH) ?_
   exact⟨A,ms,rfl,hall,ow,kr,lo_ow _ rfl,fun k hk=>⟨hfr k hk,fun e=>ap_kr_ow k hk (e▸rfl)⟩,HG⟩
def TagV (w:World) (k:Nat):Prop:=TagB w k∨∃c fr,w.heap[k]?=some (.cells c 58 fr)
theorem TagV.keep {w w':World} {k:Nat} (h:TagV w k) {row:Option Nat} (g:w.grownBy w' row) (hb:row≠some k):TagV w' k:=h.imp (·.keep g hb) fun⟨c,fr,h1⟩=>⟨c,fr,AF g h1 fun e=>hb e.symm⟩
def VRes (w w':World) (r:VV×Int) (fp:Nat→Prop) (e:Ending):Prop:=∃ao cap ks,e=.returned (.tuple #[A8 r.1.2.1 r.1.2.2 (.slice ao ks.length cap),.int .i64 r.2])∧ks.map VK.p=r.1.1∧RdK w' (.slice ao ks.length cap) ks∧(∀k,TH (.slice ao ks.length cap) ks k→fp k∨TagV w' k)∧w.grownBy w' none
theorem VRes.zero {w w':World} {r:VV×Int} {fp:Nat→Prop} {c:Int} (hr:r=(ADS,c)) (h:w.grownBy w' none):VRes w w' r fp (.returned (.tuple #[A8 AS AS (.slice none 0 0),.int .i64 c])):=by
 subst hr
 exact⟨none,0,[],rfl,rfl,RdK.nil w',fun k hk=>(AFY k hk).elim,h⟩
theorem VRes.mk2 {w w':World} {r:VV×Int} {fp:Nat→Prop} {P:List VP} {sa po:List Nat} {c:Int} {ao:Option Addr} {n cap:Nat} {ks:List VK} (hr:r=((P,sa,po),c)) (hp:ks.map VK.p=P) (ho:Own w' 58 33 (.slice ao n cap) n (ks.flatMap Ax)) (hk:KsR w' ks) (h2:∀k,Hb ks k→fp k∨TagB w' k)
  (h:w.grownBy w' none):VRes w w' r fp (.returned (.tuple #[A8 sa po (.slice ao n cap),.int .i64 c])):=by
 obtain rfl:=Own.rdk ho
 subst hr
 exact⟨ao,cap,ks,rfl,hp,⟨ho.sb,hk⟩,fun k hk=>hk.elim (fun h=>.inr (.inr (Own.block ho h))) (fun h=>(h2 k h).imp id .inl),h⟩
theorem VRes.mk {w w':World} {r:VV×Int} {fp:Nat→Prop} {P:List VP} {sa po:List Nat} {c:Int} {ao:Option Addr} {n cap:Nat} {ks:List VK} (hr:r=((P,sa,po),c)) (hp:ks.map VK.p=P) (ho:Own w' 58 33 (.slice ao n cap) n (ks.flatMap Ax)) (hk:KsT w' ks)
 (h:w.grownBy w' none):VRes w w' r fp (.returned (.tuple #[A8 sa po (.slice ao n cap),.int .i64 c])):=VRes.mk2 hr hp ho hk.1 (fun k hk'=>.inr (hk.2 k hk')) h
def Sp.cln (B:Nat) (sa po:List Nat) (n:Nat) (P:List VP):Sp:=⟨fun w v=>∃(A:Nat) (ms:List VK),v=A8 sa po (.slice (some ⟨A,0,none⟩) n n)∧ms.map VK.p=P∧Own w 58 33 (.slice (some ⟨A,0,none⟩) n n) n (ms.flatMap Ax)∧KsT w ms∧B≤A∧∀k,Hb ms k→B≤k∧k≠A,
 fun _ _ _ hg ⟨A,ms,h1,h2,h3,h4,h5,h6⟩=>⟨A,ms,h1,h2,h3.kn hg,h4.kn hg,h5,h6⟩⟩
theorem ABg {w0:World} {ks:List VK} {ao:Option Addr} {cap:Nat} {sa po:List Nat} (hsa:Dg sa) (hpo:Dg po) (hr:RdK w0 (.slice ao ks.length cap) ks) (h64:ks.length≤64):∀W,w0.grownBy W none→Calls Tryz.prog 72 #[A8 sa po (.slice ao ks.length cap)] W fun e W'=>∃v,e=.returned v∧W.grownBy W' none∧(Sp.cln w0.heap.size sa po ks.length (ks.map VK.p)).on W' v:=fun W g =>
 (Vx ks ao cap sa po hsa hpo W (hr.kn g) h64).mono fun e W' ⟨A,ms,h1,h2,h3,h4,h5,h6,h7⟩=>⟨_,h1,h7,A,ms,rfl,h2,h3,h4,Nat.le_trans g.size h5,fun k hk=>⟨Nat.le_trans g.size (h6 k hk).1,(h6 k hk).2⟩⟩
theorem KsT.ins {w:World} {ms:List VK} (h:KsT w ms) {x:VK} (hx:RdTg w x.s x.l) (i:Nat):KsT w (ms.take i++x::ms.drop i):=by
 have hh:∀k,k∈ms.take i++x::ms.drop i→k∈ms∨k=x:=fun k hk=>by
  rcases List.mem_append.1 hk with hk|hk
  · exact .inl (List.mem_of_mem_take hk)
  · rcases List.mem_cons.1 hk with rfl|hk
    · exact .inr rfl
    · exact .inl (List.mem_of_mem_drop hk)
 exact⟨fun k hk=>(hh k hk).elim (h.1 k) fun e=>e▸hx.1,fun b ⟨k,hk,hb⟩=>(hh k hk).elim (fun h1=>h.2 b ⟨k,h1,hb⟩) fun e=>hx.2 b (e▸hb)⟩
def Sp.insr (B n:Nat) (ks:List VK):Sp:=⟨fun w v=>∃ao cap,v=.slice ao n cap∧Own w 58 33 (.slice ao n cap) n (ks.flatMap Ax)∧∀k,Ba (.slice ao n cap) k→B≤k,fun _ _ _ hg ⟨ao,cap,h1,h2,h3⟩=>⟨ao,cap,h1,h2.kn hg,h3⟩⟩
theorem AHX {w0:World} {ms:List VK} {x:VK} {i A V n:Nat} (hn:n=ms.length) (hown:Own w0 58 33 (.slice (some ⟨A,0,none⟩) n n) n (ms.flatMap Ax)) (hv:w0.heap[V]?=some (.cells (Ax x).toArray 58 (0,0))) (hi:i≤n) (h64:n≤64) :
  ∀W,w0.grownBy W none→Calls Tryz.prog 83 #[.slice (some ⟨A,0,none⟩) n n,.int .i64 (i:Int),.slice (some ⟨V,0,none⟩) 1 1] W fun e W'=>∃v,e=.returned v∧W.grownBy W' none∧(Sp.insr w0.heap.size (n+1) (ms.take i++x::ms.drop i)).on W' v:=fun W g=>by
 subst hn
 exact(Vw ms x i A V W (hown.kn g) (AF g hv (by simp)) hi (by omega)).mono fun e W' ⟨v,h1,h2,h3,h4⟩=>by
  obtain⟨ao,cap,rfl,_⟩:=(Sl.of_own h2).shape
  exact⟨_,h1,h3,ao,cap,rfl,h2,fun k hk=>Nat.le_trans g.size (h4 k hk)⟩
theorem AFg {ms:List VK} {P:List VP} {o:List Nat} {T:List Nd} {x:VK} {i:Nat} (h:ms.map VK.p=P) (hi:pos P o=i) (ho:x.o=o) (hl:x.l=T):(ms.take i++x::ms.drop i).map VK.p=QV P o T:=by
 unfold QV
 rw[hi,List.map_append,List.map_cons,List.map_take,List.map_drop,h]
 simp[VK.p,ho,hl]
theorem WE {w:World} {ks ms:List VK} {A n:Nat} {sa po o:List Nat} (hsa:Dg sa) (hpo:Dg po) (ho:Dg o) (hm:ms.map VK.p=ks.map VK.p) (ow:Own w 58 33 (.slice (some ⟨A,0,none⟩) n n) n (ms.flatMap Ax)) (kr:KsR w ms) (hv:Cj (ks.map VK.p)=true) {b:Bool} (hb:LO (ks.map VK.p) o=b) {i:Nat} (hi:pos (ks.map VK.p) o=i) :
  Calls Tryz.prog 71 #[A8 sa po (.slice (some ⟨A,0,none⟩) n n),AQ o] w fun e w'=>e=.returned (.tuple #[.int .i64 (i:Int),.bool b])∧w.grownBy w' none:=by
 obtain rfl:=Own.rdk ow
 rw[←hm] at hv hb hi
 exact Y0 hsa hpo ho ⟨ow.sb,kr⟩ hv hb hi
theorem ADT (ks:List VK) (ao:Option Addr) (cap:Nat) (sa po:List Nat) (hsa:Dg sa) (hpo:Dg po) (o:List Nat) (ho:Dg o) (T:List Nd) (hT:tree (kd 275 po) []=T) (w:World) (hr:RdK w (.slice ao ks.length cap) ks) :
   Calls Tryz.prog 36 #[A8 sa po (.slice ao ks.length cap),AQ o] w fun e w'=>VRes w w' (Vd (ks.map VK.p,sa,po) o T (kd 276 po)) (fun _=>False) e:=by
 have hTl:0<T.length:=by rw[←hT,MW];exact Nat.zero_lt_one
 refine Dy Tryz.func36 rfl Tryz.ntmps36 rfl fun a0 sv0=>?_
 have HG:=World.grownBy.refl w none
 replace sv0:Sv 47 [] [(0,A8 sa po (.slice ao ks.length cap)),(1,AQ o)] a0:=sv0
 refine AKQ fun K1 k1=>?_
 refine AKP ?_
 refine Be sv0 r6 (CX hsa hpo (.slice ao ks.length cap) rfl) fun a2 w2 CP DG g2 z2 AH sv2=>?_
 have Fq:=Bq HG DG
 refine Be sv2 r6 (Bb o ho.1) fun a3 w3 BO Dw g3 z3 AG sv3=>?_
 have Fs:=As AH Dw
 replace AH:=AC g3 AH
 replace hr:=(hr.kn g2).kn g3
 replace HG:=AA (AA HG g2) g3
 refine BB (T:=36) (Z:=([bv AS,bv AS,[.slice none 0 0]].flatten)) sv3 rfl rfl rfl (fun a w=>by kernel_rfl) fun a4 w4 FS Bk g4 z4 AM sv4=>?_
 have A9:=As AH Bk
 have BA:=As AG Bk
 have Bn:=Bq HG Bk
 have Bm:=Ay (hr.lt) Bk
 replace AH:=AC g4 AH
 replace AG:=AC g4 AG
 replace hr:=hr.kn g4
 replace HG:=AA HG g4
 refine BB (T:=38) (Z:=[.int .i64 0]) sv4 rfl rfl rfl (fun a w=>by kernel_rfl) fun a5 w5 WF Eh g5 z5 BE sv5=>?_
 have Cf:=As AH Eh
 have Cx:=As AG Eh
 have BQ:=As AM Eh
 have Ew:=Bq HG Eh
 have Er:=Ay (hr.lt) Eh
 replace AH:=AC g5 AH
 replace AG:=AC g5 AG
 replace AM:=AC g5 AM
 replace hr:=hr.kn g5
 replace HG:=AA HG g5
 refine AE ?_
 refine k1 _ _ ?_
 refine AKQ fun K6 k6=>?_
 refine AKP ?_
 refine Gm sv5 rfl rfl rfl rfl rfl rfl fun a7 sv7=>?_
 refine Eo sv7 rfl (dd:={ target:=.fn (.func 81) #[pt FS,pt WF],args:=#[] }) rfl (by have e1:=sv7.ev (x:=.tmp 9) rfl rfl;simp[execOp,resolve,Deferred.ofValue,e1];try rfl) fun a8 sv8=>?_
 refine AE ?_
 refine k6 _ _ ?_
 refine AKQ fun K9 k9=>?_
 refine AKQ fun K10 k10=>?_
 cases hv:Cj (ks.map VK.p)
 · refine AKP ?_
   refine AJ sv8 3 [(10,A8 sa po (.slice ao ks.length cap)),(11,.bool false),(12,.bool true)]
     ⟨yl r6 (CX hsa hpo (.slice ao ks.length cap) rfl) AH,Al [A8 sa po (.slice ao ks.length cap)] Tryz.func51 (by kernel_rfl) rq4 ⟨(oy rfl rfl),AKW⟩ (A7 fun W g=>KT hsa hpo (hr.kn g) hv),C3 r6 (fun _=>Bi),AKW⟩ fun a11 w11 g11 Bv=>?_
   refine AE ?_
   refine k10 _ _ ?_
   refine Ar Bv rfl rfl ?_
   refine AKQ fun K12 k12=>?_
   refine AKP ?_
   replace AH:=AC g11 AH
   replace AG:=AC g11 AG
   replace AM:=AC g11 AM
   replace BE:=AC g11 BE
   refine AJ Bv 1 [(13,A8 AS AS (.slice none 0 0))]
     ⟨BM (vs:=[]) rfl rfl trivial trivial (fun _=>bV0 _) (fun _=>rfl),AKW⟩ fun a13 w13 g13 Cg=>?_
   refine Av Cg r7 (CX Ab Ab (.slice none 0 0) rfl) (AC g13 AM) (by first|rfl|simp[Ax,AO,Ac,Ab.1,Ab.1]) fun w14 g14 h14=>?_
   replace BE:=Ag g13 g14 BE BQ
   refine Av Cg r7 (E9 1) BE rfl fun w15 g15 h15=>?_
   replace AH:=AZ g15 (Ag g13 g14 AH (Ne.symm A9)) (Ne.symm Cf)
   replace AG:=AZ g15 (Ag g13 g14 AG (Ne.symm BA)) (Ne.symm Cx)
   replace AM:=AZ g15 h14 (Ne.symm BQ)
   replace hr:=(((hr.kn g11).kn g13).offR g14 (AP Bm)).offR g15 (AP Er)
   replace HG:=AD (AD (AA (AA HG g11) g13) g14 Bn) g15 Ew
   replace BE:=h15
   refine AE ?_
   refine k12 _ _ ?_
   refine AKT ?_
   repeat refine AK ?_
   refine Bj (fn:=Tryz.f36) Cg (CC (p:=4) (q:=5) Tryz.results36 Cg rfl rfl rfl rfl (CX Ab Ab (.slice none 0 0) rfl) (E9 1) AM BE) (CH Tryz.func81 (by kernel_rfl) rfl _ _) (Fo _ _ _) ?_
   exact VRes.zero (by unfold Vd;rw[if_neg (by rw[hv];simp)]) HG
 · obtain⟨i,hi⟩:∃i,pos (ks.map VK.p) o=i:=⟨_,rfl⟩
   have h64:ks.length≤64:=by have:=(FJ.1 hv).1;simpa using this
   have hin:i≤ks.length:=by rw[←hi];simpa using TS (ks.map VK.p) o
   refine AKP ?_
   refine AJ sv8 3 [(10,A8 sa po (.slice ao ks.length cap)),(11,.bool true),(12,.bool false)]
     ⟨yl r6 (CX hsa hpo (.slice ao ks.length cap) rfl) AH,Al [A8 sa po (.slice ao ks.length cap)] Tryz.func51 (by kernel_rfl) rq4 ⟨(oy rfl rfl),AKW⟩ (A7 fun W g=>KT hsa hpo (hr.kn g) hv),C3 r6 (fun _=>Bi),AKW⟩ fun a16 w16 g16 Cr=>?_
   refine AE ?_
   refine k10 _ _ ?_
   refine A2 Cr rfl rfl ?_
   refine AKU ?_
   refine k9 _ _ ?_
   refine AKQ fun K17 k17=>?_
   refine AKP ?_
   replace AH:=AC g16 AH
   replace AM:=AC g16 AM
   replace BE:=AC g16 BE
   replace hr:=hr.kn g16
   refine Ic (Cr.st w16) 2 [(14,Sp.is (A8 sa po (.slice ao ks.length cap))),(15,Sp.cln w16.heap.size sa po ks.length (ks.map VK.p))] rfl (by kernel_rfl) (by kernel_rfl) (by kernel_rfl)
     ⟨yl r6 (CX hsa hpo (.slice ao ks.length cap) rfl) AH,Al [A8 sa po (.slice ao ks.length cap)] Tryz.func72 (by kernel_rfl) rq4 ⟨(oy rfl rfl),AKW⟩ (ABg hsa hpo hr h64),AKW⟩ fun a18 w18 g18 st18=>?_
   obtain⟨hn18,hd18,e18_14,e18_15,e18_10,e18_11,e18_12,e18_9,e18_5,e18_4,e18_3,e18_2,e18_0,e18_1,-⟩:=st18
   obtain⟨A,ms,e18_15q,hmp,ow,kr,frA,frK⟩:=e18_15
   have fr_ow:∀k,Ba (.slice ((some ⟨A,0,none⟩)) ks.length ks.length) k→w16.heap.size≤k:=fun k hk=>(Option.some.inj hk)▸frA
   have fr_kr:∀k,Hb ms k→w16.heap.size≤k:=fun k hk=>(frK k hk).1
   have ap_kr_ow:∀k,Hb ms k→¬Ba (.slice ((some ⟨A,0,none⟩)) ks.length ks.length) k:=fun k hk e=>(frK k hk).2 (Option.some.inj e).symm
   have L5:=DK fr_ow AH
   have L8:=DK fr_ow AM
   have L9:=DK fr_ow BE
   have MB:=DK fr_kr AH
   have MC:=DK fr_kr AM
   have ME:=DK fr_kr BE
   replace AH:=AC g18 AH
   have CQ:Sv 47 [{ target:=.fn (.func 81) #[pt FS,pt WF],args:=#[] }] [(10,_),(11,_),(12,_),(9,_),(5,_),(4,_),(3,_),(2,_),(0,_),(1,_),(15,_)] a18:=⟨hn18,hd18,e18_10,e18_11,e18_12,e18_9,e18_5,e18_4,e18_3,e18_2,e18_0,e18_1,e18_15q,AKW⟩
   refine Av CQ r7 (CX hsa hpo (.slice ((some ⟨A,0,none⟩)) ks.length ks.length) rfl) AH (by first|rfl|simp[Ax,AO,Ac,hsa.1,hpo.1,hsa.1,hpo.1]) fun w19 g19 h19=>?_
   replace AG:=AZ g19 (AC g18 (AC g16 AG)) Fs
   replace AM:=AZ g19 (AC g18 AM) A9
   replace BE:=AZ g19 (AC g18 BE) Cf
   replace ow:=ow.offR g19 (AP L5)
   replace kr:=kr.offR g19 (AP MB)
   replace HG:=AD (AA (AA HG g16) g18) g19 Fq
   replace AH:=h19
   refine AE ?_
   refine k17 _ _ ?_
   refine AKQ fun K20 k20=>?_
   have hml:ks.length=ms.length:=Own.rdk ow
   cases hf:LO (ks.map VK.p) o
   · refine AKP ?_
     refine AJ CQ 6 [(17,A8 sa po (.slice ((some ⟨A,0,none⟩)) ks.length ks.length)),(18,AQ o),(19,.tuple #[.int .i64 ((i:Int)),.bool false]),(16,.tuple #[.int .i64 ((i:Int)),.bool false]),(20,.int .i64 ((i:Int))),(21,.bool false)]
       ⟨yl r6 (CX hsa hpo (.slice ((some ⟨A,0,none⟩)) ks.length ks.length) rfl) AH,yl r6 (Bb o ho.1) AG,Al [A8 sa po (.slice ((some ⟨A,0,none⟩)) ks.length ks.length),AQ o] Tryz.func71 (by kernel_rfl) rq4 ⟨(oy rfl rfl),(oy rfl rfl),AKW⟩ (A7 fun W g=>WE hsa hpo ho hmp (ow.kn g) (kr.1.kn g) hv hf hi),ym r5,BZ rq4 (fun _ _ h=>⟨_,_,h,rfl,rfl⟩),BZ rq4 (fun _ _ h=>⟨_,_,h,rfl,rfl⟩),AKW⟩ fun a21 w21 g21 CK=>?_
     refine AR (v:=.int .i64 ((i:Int))) CK r6 fun a22 Bu=>?_
     refine AR (v:=.bool false) Bu r6 fun a23 Cl=>?_
     have Du:Sv _ _ [_,_,_,_,_,_,_,_,_,_,_,_,_] _:=Cl.dl [17,18,19,16,20,21]
     refine AE ?_
     refine k20 _ _ ?_
     refine AKQ fun K25 k25=>?_
     refine AKQ fun K26 k26=>?_
     refine AKP ?_
     refine AJ Du 1 [(22,.bool false)]
       ⟨ym r5,AKW⟩ fun a27 w27 g27 F6=>?_
     have Qf:=AA g21 g27
     refine AE ?_
     refine k26 _ _ ?_
     refine A2 F6 rfl rfl ?_
     refine AKU ?_
     refine k25 _ _ ?_
     refine AKQ fun K28 k28=>?_
     refine AKQ fun K29 k29=>?_
     replace AH:=AC Qf AH
     replace AG:=AC Qf AG
     replace AM:=AC Qf AM
     replace BE:=AC Qf BE
     replace ow:=ow.kn Qf
     replace kr:=kr.kn Qf
     replace HG:=AA HG Qf
     by_cases hfull:64≤ks.length
     · refine AKP ?_
       refine AJ F6 4 [(24,pk CP 64),(25,.slice ((some ⟨A,0,none⟩)) ks.length ks.length),(26,.int .i64 ((ks.length:Nat))),(27,.bool true)]
        ⟨yf r6 (fun _=>by kernel_rfl),yp (i:=2) r6 (Dd (.slice ((some ⟨A,0,none⟩)) ks.length ks.length) rfl) AH rfl (by simp[AO,Ac,hsa.1,hpo.1]),Au (Tryz.underlying34) rfl rfl trivial (oy rfl rfl) (fun _=>rfl),Cp r6 (fun _=>Da (decide_eq_true (by omega))),AKW⟩ fun a30 w30 g30 Dl=>?_
       refine AE ?_
       refine k29 _ _ ?_
       refine Ar Dl rfl rfl ?_
       refine AKQ fun K31 k31=>?_
       refine AKP ?_
       replace AH:=AC g30 AH
       replace AG:=AC g30 AG
       replace AM:=AC g30 AM
       replace BE:=AC g30 BE
       refine AJ Dl 1 [(28,A8 AS AS (.slice none 0 0))]
        ⟨BM (vs:=[]) rfl rfl trivial trivial (fun _=>bV0 _) (fun _=>rfl),AKW⟩ fun a32 w32 g32 Dm=>?_
       refine Av Dm r7 (CX Ab Ab (.slice none 0 0) rfl) (AC g32 AM) (by first|rfl|simp[Ax,AO,Ac,Ab.1,Ab.1]) fun w33 g33 h33=>?_
       replace BE:=Ag g32 g33 BE BQ
       refine Av Dm r7 (E9 8) BE rfl fun w34 g34 h34=>?_
       replace AH:=AZ g34 (Ag g32 g33 AH (Ne.symm A9)) (Ne.symm Cf)
       replace AG:=AZ g34 (Ag g32 g33 AG (Ne.symm BA)) (Ne.symm Cx)
       replace AM:=AZ g34 h33 (Ne.symm BQ)
       replace ow:=(((ow.kn g30).kn g32).offR g33 (AP L8)).offR g34 (AP L9)
       replace kr:=(((kr.kn g30).kn g32).offR g33 (AP MC)).offR g34 (AP ME)
       replace HG:=AD (AD (AA (AA HG g30) g32) g33 Bn) g34 Ew
       replace BE:=h34
       refine AE ?_
       refine k31 _ _ ?_
       refine AKT ?_
       repeat refine AK ?_
       refine Bj (fn:=Tryz.f36) Dm (CC (p:=4) (q:=5) Tryz.results36 Dm rfl rfl rfl rfl (CX Ab Ab (.slice none 0 0) rfl) (E9 8) AM BE) (CH Tryz.func81 (by kernel_rfl) rfl _ _) (Fo _ _ _) ?_
       exact VRes.zero (by unfold Vd;rw[if_pos hv,if_neg (by rw[hf];simp),if_pos (by simpa using hfull)]) HG
     · refine AKP ?_
       refine AJ F6 4 [(24,pk CP 64),(25,.slice ((some ⟨A,0,none⟩)) ks.length ks.length),(26,.int .i64 ((ks.length:Nat))),(27,.bool false)]
        ⟨yf r6 (fun _=>by kernel_rfl),yp (i:=2) r6 (Dd (.slice ((some ⟨A,0,none⟩)) ks.length ks.length) rfl) AH rfl (by simp[AO,Ac,hsa.1,hpo.1]),Au (Tryz.underlying34) rfl rfl trivial (oy rfl rfl) (fun _=>rfl),Cp r6 (fun _=>Da (decide_eq_false (by omega))),AKW⟩ fun a35 w35 g35 Iz=>?_
       refine AE ?_
       refine k29 _ _ ?_
       refine A2 Iz rfl rfl ?_
       refine AKU ?_
       refine k28 _ _ ?_
       refine AKQ fun K36 k36=>?_
       replace AH:=AC g35 AH
       replace AG:=AC g35 AG
       replace AM:=AC g35 AM
       replace BE:=AC g35 BE
       replace ow:=ow.kn g35
       replace kr:=kr.kn g35
       replace HG:=AA HG g35
       refine Eg (Iz.st w35) (by kernel_rfl) 7 [(29,Sp.is (AQ o)),(30,Sp.is (pk CP 32)),(31,Sp.is (AQ po)),(32,Sp.is (AQ ((kd 275 po)))),(33,Sp.ct w35.heap.size T),(34,Sp.ck w35.heap.size o T),(8,Sp.new w35.heap.size (([bv AS,[.slice none 0 0]].flatten)) 58)] rfl (by kernel_rfl) (by kernel_rfl) (by kernel_rfl) [] (by kernel_rfl)
        ⟨yl r6 (Bb o ho.1) AG,yf r6 (fun _=>by kernel_rfl),yp (i:=1) r6 (Bb po hpo.1) AH rfl (by simp[AO,Ac,hsa.1,hpo.1]),Al [.int .u64 275,AQ po,.slice none 0 0] Tryz.func66 (by kernel_rfl) rq4 ⟨rfl,(oy rfl rfl),rfl,AKW⟩ (A7 fun W g=>Md (n:=275) (by decide) rfl hpo W),Al [AQ ((kd 275 po))] Tryz.func82 (by kernel_rfl) rq4 ⟨(oy rfl rfl),AKW⟩ (AFW (Ct _ _) hT),ND rfl rfl trivial rfl (fun W _ av h=>match av,h with|[u,t],⟨h1,h2,_⟩=>AGc ho h1 h2),KO rfl trivial (Nat.le_refl _) (fun a w=>by kernel_rfl) (fun _ _ h=>h),AKW⟩ trivial
        [8] (by kernel_rfl) ⟨Sp.new_lt,AKW⟩ ⟨.inl rfl,.inl rfl,.inl rfl,.inl rfl,.inl rfl,.inl rfl,.inr ⟨rfl,(([bv AS,[.slice none 0 0]].flatten)).toArray,58,fun a w=>by kernel_rfl⟩,AKW⟩ (by kernel_rfl) fun a37 w37 g37 st37 nd37=>?_
       obtain⟨hn37,hd37,e37_29,e37_30,e37_31,e37_32,e37_33,e37_34,e37_8,e37_24,e37_25,e37_26,e37_27,e37_22,e37_7,e37_6,e37_10,e37_11,e37_12,e37_9,e37_5,e37_4,e37_3,e37_2,e37_0,e37_1,e37_15,-⟩:=st37
       obtain⟨y,e37_34q,hyo,hyl,rt,frB⟩:=e37_34
       obtain⟨AIg,e37_8q,IJ,PM⟩:=e37_8
       have Qg:=He AH IJ
       have Qh:=He AG IJ
       have Qi:=He AM IJ
       have Qj:=He BE IJ
       have ADU:=SC HG IJ
       have WG:=Gj (Own.ltS ow) IJ
       have WH:=Gj (kr.lt) IJ
       have PN:=DK frB AH
       have ZI:=DK frB AM
       have ZJ:=DK frB BE
       have WI:=rt.2.ap PM (by decide)
       have IE:Sv 47 [{ target:=.fn (.func 81) #[pt FS,pt WF],args:=#[] }] [(24,_),(25,_),(26,_),(27,_),(22,_),(7,_),(6,_),(10,_),(11,_),(12,_),(9,_),(5,_),(4,_),(3,_),(2,_),(0,_),(1,_),(15,_),(34,_),(8,_)] a37:=⟨hn37,hd37,e37_24,e37_25,e37_26,e37_27,e37_22,e37_7,e37_6,e37_10,e37_11,e37_12,e37_9,e37_5,e37_4,e37_3,e37_2,e37_0,e37_1,e37_15,e37_34q,e37_8q,AKW⟩
       refine Av IE r7 (Yx y) PM (by first|rfl|simp[Ax,AO,Ac,y.ho.1]) fun w38 g38 h38=>?_
       replace AH:=AZ g38 (AC g37 AH) (Ne.symm Qg)
       replace AG:=AZ g38 (AC g37 AG) (Ne.symm Qh)
       replace AM:=AZ g38 (AC g37 AM) (Ne.symm Qi)
       replace BE:=AZ g38 (AC g37 BE) (Ne.symm Qj)
       replace HG:=AD (AA HG g37) g38 ADU
       replace PM:=h38
       refine AE ?_
       refine k36 _ _ ?_
       refine AKQ fun K39 k39=>?_
       refine AKP ?_
       refine Ic (IE.st w38) 5 [(35,Sp.is (pk CP 64)),(36,Sp.is (.slice ((some ⟨A,0,none⟩)) ks.length ks.length)),(37,Sp.is (.int .i64 ((i:Int)))),(38,Sp.is (IB y)),(39,Sp.lit1 w38.heap.size 58 (Ax y))] rfl (by kernel_rfl) (by kernel_rfl) (by kernel_rfl)
        ⟨yf r6 (fun _=>by kernel_rfl),yp (i:=2) r6 (Dd (.slice ((some ⟨A,0,none⟩)) ks.length ks.length) rfl) AH rfl (by simp[AO,Ac,hsa.1,hpo.1]),ym r5,yl r6 (Yx y) PM,TE rfl rfl trivial (Nat.le_refl _) rfl (fun W hw v h=>match v,h with|_,⟨rfl,_⟩=>⟨Ax y,AJX y W,fun w' _ hh=>⟨_,rfl,hw.size,hh⟩⟩),AKW⟩ fun a40 w40 g40 st40=>?_
       obtain⟨hn40,hd40,e40_35,e40_36,e40_37,e40_38,e40_39,e40_24,e40_25,e40_26,e40_27,e40_22,e40_7,e40_6,e40_10,e40_11,e40_12,e40_9,e40_5,e40_4,e40_3,e40_2,e40_0,e40_1,e40_15,e40_34,e40_8,-⟩:=st40
       obtain⟨V,e40_39q,geV,HV⟩:=e40_39
       have SO:V≠CP:=Nat.ne_of_gt (Nat.lt_of_lt_of_le (Array.getElem?_eq_some_iff.1 AH).1 geV)
       have AH9:V≠BO:=Nat.ne_of_gt (Nat.lt_of_lt_of_le (Array.getElem?_eq_some_iff.1 AG).1 geV)
       have ABh:V≠FS:=Nat.ne_of_gt (Nat.lt_of_lt_of_le (Array.getElem?_eq_some_iff.1 AM).1 geV)
       have ABi:V≠WF:=Nat.ne_of_gt (Nat.lt_of_lt_of_le (Array.getElem?_eq_some_iff.1 BE).1 geV)
       have AHY:V≠AIg:=Nat.ne_of_gt (Nat.lt_of_lt_of_le (Array.getElem?_eq_some_iff.1 PM).1 geV)
       have lo_V:w.heap.size≤V:=Nat.le_trans HG.size geV
       replace AH:=AC g40 AH
       replace AM:=AC g40 AM
       replace BE:=AC g40 BE
       replace ow:=((ow.kn g37).offR g38 (AP WG)).kn g40
       have IG:Sv 47 [{ target:=.fn (.func 81) #[pt FS,pt WF],args:=#[] }] [(24,_),(25,_),(26,_),(27,_),(22,_),(7,_),(6,_),(10,_),(11,_),(12,_),(9,_),(5,_),(4,_),(3,_),(2,_),(0,_),(1,_),(15,_),(34,_),(8,_),(36,_),(37,_),(39,_)] a40:=⟨hn40,hd40,e40_24,e40_25,e40_26,e40_27,e40_22,e40_7,e40_6,e40_10,e40_11,e40_12,e40_9,e40_5,e40_4,e40_3,e40_2,e40_0,e40_1,e40_15,e40_34,e40_8,e40_36,e40_37,e40_39q,AKW⟩
       refine Ic (IG.st w40) 2 [(40,Sp.insr w40.heap.size (ks.length+1) (ms.take i++y::ms.drop i)),(41,Sp.is (pk CP 64))] rfl (by kernel_rfl) (by kernel_rfl) (by kernel_rfl)
        ⟨Al [.slice ((some ⟨A,0,none⟩)) ks.length ks.length,.int .i64 ((i:Int)),.slice ((some ⟨V,0,none⟩)) 1 1] Tryz.func83 (by kernel_rfl) rq4 ⟨(oy rfl rfl),(oy rfl rfl),(oy rfl rfl),AKW⟩ (AHX hml ow HV hin h64),yf r6 (fun _=>by kernel_rfl),AKW⟩ fun a41 w41 g41 st41=>?_
       obtain⟨hn41,hd41,e41_40,e41_41,e41_24,e41_25,e41_26,e41_27,e41_22,e41_7,e41_6,e41_10,e41_11,e41_12,e41_9,e41_5,e41_4,e41_3,e41_2,e41_0,e41_1,e41_15,e41_34,e41_8,e41_36,e41_37,e41_39,-⟩:=st41
       obtain⟨ai,ci,e41_40q,oi,fri⟩:=e41_40
       have PO:=DK fri AH
       have ZK:=DK fri AM
       have ZL:=DK fri BE
       replace AH:=AC g41 AH
       have Qb:Sv 47 [{ target:=.fn (.func 81) #[pt FS,pt WF],args:=#[] }] [(24,_),(25,_),(26,_),(27,_),(22,_),(7,_),(6,_),(10,_),(11,_),(12,_),(9,_),(5,_),(4,_),(3,_),(2,_),(0,_),(1,_),(15,_),(34,_),(8,_),(36,_),(37,_),(39,_),(40,_),(41,_)] a41:=⟨hn41,hd41,e41_24,e41_25,e41_26,e41_27,e41_22,e41_7,e41_6,e41_10,e41_11,e41_12,e41_9,e41_5,e41_4,e41_3,e41_2,e41_0,e41_1,e41_15,e41_34,e41_8,e41_36,e41_37,e41_39,e41_40q,e41_41,AKW⟩
       refine La (L:=[bv sa,bv po,[.slice ((some ⟨A,0,none⟩)) ks.length ks.length]]) (i:=2) Qb r7 (Dd (.slice ai (ks.length+1) ci) rfl) AH rfl (by simp[AO,Ac,hsa.1,hpo.1]) rfl fun w42 g42 h42=>?_
       replace AG:=AZ g42 (AC g41 (AC g40 AG)) Fs
       replace AM:=AZ g42 (AC g41 AM) A9
       replace BE:=AZ g42 (AC g41 BE) Cf
       replace HV:=AZ g42 (AC g41 HV) SO
       replace AH:=h42
       have Hn:Sv _ _ [_,_,_,_,_,_,_,_,_,_,_,_,_,_,_,_,_,_,_] _:=Qb.dl [6,36,37,39,40,41]
       refine AE ?_
       refine k39 _ _ ?_
       refine AKQ fun K44 k44=>?_
       refine AKP ?_
       refine AJ Hn 4 [(42,pk CP 32),(43,AQ po),(44,AQ ((kd 276 po))),(45,pk CP 32)]
        ⟨yf r6 (fun _=>by kernel_rfl),yp (i:=1) r6 (Bb po hpo.1) AH rfl (by simp[AO,Ac,hsa.1,hpo.1]),Al [.int .u64 276,AQ po,.slice none 0 0] Tryz.func66 (by kernel_rfl) rq4 ⟨rfl,(oy rfl rfl),rfl,AKW⟩ (A7 fun W g=>Md (n:=276) (by decide) rfl hpo W),yf r6 (fun _=>by kernel_rfl),AKW⟩ fun a45 w45 g45 E8=>?_
       refine La (L:=[bv sa,bv po,[.slice ai (ks.length+1) ci]]) (i:=1) E8 r7 (Bb ((kd 276 po)) (Ct _ _).1) (AC g45 AH) rfl (by simp[AO,Ac,hsa.1,hpo.1]) (Vl hpo (Ct _ _)) fun w46 g46 h46=>?_
       replace AM:=Ag g45 g46 AM A9
       replace AH:=h46
       have NH:Sv _ _ [_,_,_,_,_,_,_,_,_,_,_,_,_,_,_,_,_,_,_] _:=E8.dl [42,43,44,45]
       refine AE ?_
       refine k44 _ _ ?_
       refine AKQ fun K48 k48=>?_
       refine AKP ?_
       refine AJ NH 1 [(46,A8 sa ((kd 276 po)) (.slice ai (ks.length+1) ci))]
        ⟨yl r6 (CX hsa (Ct _ _) (.slice ai (ks.length+1) ci) rfl) AH,AKW⟩ fun a49 w49 g49 LQ=>?_
       refine Av LQ r7 (CX hsa (Ct _ _) (.slice ai (ks.length+1) ci) rfl) (AC g49 AM) (by first|rfl|simp[Ax,AO,Ac,hsa.1,(Ct _ _).1]) fun w50 g50 h50=>?_
       replace BE:=Ag g49 g50 (Ag g45 g46 BE Cf) BQ
       refine Av LQ r7 (E9 0) BE rfl fun w51 g51 h51=>?_
       replace AH:=AZ g51 (Ag g49 g50 AH (Ne.symm A9)) (Ne.symm Cf)
       replace AG:=AZ g51 (Ag g49 g50 (Ag g45 g46 AG Fs) (Ne.symm BA)) (Ne.symm Cx)
       replace AM:=AZ g51 h50 (Ne.symm BQ)
       replace HV:=AZ g51 (Ag g49 g50 (Ag g45 g46 HV SO) ABh) ABi
       replace ow:=((((((ow.kn g41).offR g42 (AP L5)).kn g45).offR g46 (AP L5)).kn g49).offR g50 (AP L8)).offR g51 (AP L9)
       replace kr:=(((((((((kr.kn g37).offR g38 (AP WH)).kn g40).kn g41).offR g42 (AP MB)).kn g45).offR g46 (AP MB)).kn g49).offR g50 (AP MC)).offR g51 (AP ME)
       replace rt:=((((((((rt.offR g38 (AP WI)).kn g40).kn g41).offR g42 (AP PN)).kn g45).offR g46 (AP PN)).kn g49).offR g50 (AP ZI)).offR g51 (AP ZJ)
       replace oi:=(((((oi.offR g42 (AP PO)).kn g45).offR g46 (AP PO)).kn g49).offR g50 (AP ZK)).offR g51 (AP ZL)
       replace HG:=AD (AD (AA (AD (AA (AD (AA (AA HG g40) g41) g42 Fq) g45) g46 Fq) g49) g50 Bn) g51 Ew
       replace BE:=h51
       refine AE ?_
       refine k48 _ _ ?_
       refine AKT ?_
       repeat refine AK ?_
       refine Bj (fn:=Tryz.f36) LQ (CC (p:=4) (q:=5) Tryz.results36 LQ rfl rfl rfl rfl (CX hsa (Ct _ _) (.slice ai (ks.length+1) ci) rfl) (E9 0) AM BE) (CH Tryz.func81 (by kernel_rfl) rfl _ _) (Fo _ _ _) ?_
       exact VRes.mk (P:=QV (ks.map VK.p) o T) (by unfold Vd;rw[if_pos hv,if_neg (by rw[hf];simp),if_neg (by simpa using hfull)]) (AFg hmp hi hyo hyl) oi (KsT.ins kr rt i) HG
   · refine AKP ?_
     refine AJ CQ 6 [(17,A8 sa po (.slice ((some ⟨A,0,none⟩)) ks.length ks.length)),(18,AQ o),(19,.tuple #[.int .i64 ((i:Int)),.bool true]),(16,.tuple #[.int .i64 ((i:Int)),.bool true]),(20,.int .i64 ((i:Int))),(21,.bool true)]
       ⟨yl r6 (CX hsa hpo (.slice ((some ⟨A,0,none⟩)) ks.length ks.length) rfl) AH,yl r6 (Bb o ho.1) AG,Al [A8 sa po (.slice ((some ⟨A,0,none⟩)) ks.length ks.length),AQ o] Tryz.func71 (by kernel_rfl) rq4 ⟨(oy rfl rfl),(oy rfl rfl),AKW⟩ (A7 fun W g=>WE hsa hpo ho hmp (ow.kn g) (kr.1.kn g) hv hf hi),ym r5,BZ rq4 (fun _ _ h=>⟨_,_,h,rfl,rfl⟩),BZ rq4 (fun _ _ h=>⟨_,_,h,rfl,rfl⟩),AKW⟩ fun a52 w52 g52 PQ=>?_
     refine AR (v:=.int .i64 ((i:Int))) PQ r6 fun a53 N9=>?_
     refine AR (v:=.bool true) N9 r6 fun a54 KV=>?_
     have AFh:Sv _ _ [_,_,_,_,_,_,_,_,_,_,_,_,_] _:=KV.dl [17,18,19,16,20,21]
     refine AE ?_
     refine k20 _ _ ?_
     refine AKQ fun K56 k56=>?_
     refine AKQ fun K57 k57=>?_
     refine AKP ?_
     refine AJ AFh 1 [(22,.bool true)]
       ⟨ym r5,AKW⟩ fun a58 w58 g58 Qk=>?_
     have AIh:=AA g52 g58
     refine AE ?_
     refine k57 _ _ ?_
     refine Ar Qk rfl rfl ?_
     refine AKQ fun K59 k59=>?_
     refine AKP ?_
     refine AJ Qk 1 [(23,A8 sa po (.slice ((some ⟨A,0,none⟩)) ks.length ks.length))]
       ⟨yl r6 (CX hsa hpo (.slice ((some ⟨A,0,none⟩)) ks.length ks.length) rfl) (AC AIh AH),AKW⟩ fun a60 w60 g60 ZM=>?_
     have LR:=AA AIh g60
     refine Av ZM r7 (CX hsa hpo (.slice ((some ⟨A,0,none⟩)) ks.length ks.length) rfl) (AC LR AM) (by first|rfl|simp[Ax,AO,Ac,hsa.1,hpo.1]) fun w61 g61 h61=>?_
     replace BE:=Ag LR g61 BE BQ
     refine Av ZM r7 (E9 0) BE rfl fun w62 g62 h62=>?_
     replace AM:=AZ g62 h61 (Ne.symm BQ)
     replace ow:=((ow.kn LR).offR g61 (AP L8)).offR g62 (AP L9)
     replace kr:=((kr.kn LR).offR g61 (AP MC)).offR g62 (AP ME)
     replace HG:=AD (AD (AA HG LR) g61 Bn) g62 Ew
     replace BE:=h62
     refine AE ?_
     refine k59 _ _ ?_
     refine AKT ?_
     repeat refine AK ?_
     refine Bj (fn:=Tryz.f36) ZM (CC (p:=4) (q:=5) Tryz.results36 ZM rfl rfl rfl rfl (CX hsa hpo (.slice ((some ⟨A,0,none⟩)) ks.length ks.length) rfl) (E9 0) AM BE) (CH Tryz.func81 (by kernel_rfl) rfl _ _) (Fo _ _ _) ?_
     exact VRes.mk (P:=ks.map VK.p) (by unfold Vd;rw[if_pos hv,if_pos hf]) hmp ow kr HG
end Go.Proofs.YtbfjfnbcmojpiaaGreat
namespace Go.Proofs.YtbfjfnbcmojpiaaGreat
open Go.RowKit
section
variable {P:Program} {ops:Array Oper} {S:World→Prop} {Kt:Act→Prop} {o:Oper} {r:List Oper} {a:Act} {n:Nat} {D:List Deferred} {K:List (Nat×Value)}
theorem LD (sv:Sv n D K a) (hgd:o.guard=none) {T:TypeId} {x:Operand} {d:Nat} {p v:Value} (ho:o.op=.load T x) (hd:o.dst=some d) (hdn:decide (d<n)=true) (hx:Ly K x=true∧Lz K x=p) (hr:∀w,S w→(Instr.loadAt T p).run P w=.ok v w)
  (h:∀a',Sv n D ((d,v)::Iw d K) a'→Gz P ops S Kt r a'):Gz P ops S Kt (o::r) a:=
 ABE hgd T x ho (sv.ev hx.1 hx.2) hr (by rw[hd];exact h _ (sv.put (of_decide_eq_true hdn) v))
theorem F7 (w0:World) (sv:Sv n D K a) {v:Value} {d:Nat} (hd:o.dst=some d) (hc:(decide (d<n)&&!(o.looksAt ops).contains d)=true) (hp:PX P ops (QK ((d,Sp.is v)::O9 K)) n w0 o)
  (h:∀a',Sv n D ((d,v)::Iw d K) a'→Gz P ops S Kt r a'):Gz P ops S Kt (o::r) a:=by
 simp only[Bool.and_eq_true,decide_eq_true_eq,Bool.not_eq_true'] at hc
 obtain⟨u,hy,hu⟩:=hp a w0 (World.grownBy.refl _ _) (fun t ht htn=>by
  have hne:(Nat.beq d t)=false:=by
   cases e:Nat.beq d t with
   | false=>rfl
   | true =>
    have:=Nat.eq_of_beq_eq_true e
    subst this
    have h2:=hc.2
    rw[←Bool.not_eq_true,List.contains_iff_mem] at h2
    exact absurd ht h2
  have h1:=(sv.st w0).2.2.at t
  unfold QK
  rw[hne]
  exact h1) sv.1
 have e:u=v:=by
  have:=hu d hd
  unfold QK at this
  have hb:Nat.beq d d=true:=Nat.beq_refl d
  rw[hb] at this
  exact this
 subst e
 exact⟨_,hy.yieldsIf,by rw[hd];exact h _ (sv.put hc.1 _)⟩
end
section
variable {w w':World} {s v:Value} {l:List Nd}
end
end Go.Proofs.YtbfjfnbcmojpiaaGreat
namespace Go.Proofs.YtbfjfnbcmojpiaaGreat
open Go.RowKit Go.Shelf
theorem AG2 (n:Nat):∀b∈Rq n,b<256:=by
 induction n using Nat.strongRecOn with
 | _ n ih =>
  by_cases h:n<128
  · rw[F9 h];intro b hb;simp at hb;omega
  · rw[JQ h]
    intro b hb
    rcases List.mem_cons.1 hb with rfl|hb
    · omega
    · exact ih (n/128) (by omega) b hb
theorem Ln (n:Int):∀b∈enc n,b<256:=AG2 _
theorem AEy (s:ByteArray):∀b∈YT s,b<256:=fun b hb=>by
 rcases List.mem_append.1 hb with h|h
 · exact Ln _ b h
 · exact AGS s b h
theorem AEz (v:V):∀b∈QN v,b<256:=fun b hb=>by
 unfold QN at hb
 rcases List.mem_append.1 hb with h|h
 · exact Ln _ b h
 · split at h
   · exact Ln _ b h
   · split at h
     · exact AEy _ b h
     · cases h
def vc (v:V):List Value:=[.int .i64 v.kind,.int .i64 v.int,.string v.text]
theorem Ck (v:V):TY Tryz.prog 25 (vc v) (B7 v):=tyV v
theorem Di (v:Value) (h:v.oneCell'=true):TY Tryz.prog 29 [v] v:=TY.one' Tryz.underlying29 rfl (by kernel_rfl) h
theorem C7 {w w':World} {v':Value} (h:Step w M5 w' v'):w.grownBy w' none∧∀k,Ba v' k→w.heap.size≤k:=⟨Step.none h,fun k hk=>(h.2 k hk).elim (fun h=>by simp[M5,Value.ownBlock] at h) id⟩
def NwR (w w':World) (xs:List Nat) (e:Ending):Prop:=∃v,e=.returned v∧w.grownBy w' none∧(Sp.row w.heap.size 5 1 xs.length (bv xs)).on w' v
end Go.Proofs.YtbfjfnbcmojpiaaGreat
namespace Go.Proofs.YtbfjfnbcmojpiaaGreat
open Go.RowKit
theorem WJ {w w':World} {fp p:Nat→Prop} (g:w.grownBy w' none) (h:∀k,p k→fp k∨TagV w k):∀k,p k→fp k∨TagV w' k:=fun k hk=>(h k hk).imp id (·.keep g (by simp))
def Sp.vt (r:VV×Int) (fp:Nat→Prop):Sp:=⟨fun w v=>∃ao cap ks,v=.tuple #[A8 r.1.2.1 r.1.2.2 (.slice ao (List.length ks) cap),.int .i64 r.2]∧ks.map VK.p=r.1.1∧RdK w (.slice ao (List.length ks) cap) ks∧∀k,TH (.slice ao (List.length ks) cap) ks k→fp k∨TagV w k,fun _ _ _ hg ⟨ao,cap,ks,h1,h2,h3,h4⟩=>⟨ao,cap,ks,h1,h2,h3.kn hg,WJ hg h4⟩⟩
theorem VRes.on {w w':World} {r:VV×Int} {fp:Nat→Prop} {e:Ending} (h:VRes w w' r fp e):∃v,e=.returned v∧w.grownBy w' none∧(Sp.vt r fp).on w' v:=by
 obtain⟨ao,cap,ks,h1,h2,h3,h4,h5⟩:=h
 exact⟨_,h1,h5,ao,cap,ks,rfl,h2,h3,h4⟩
section
variable {w0:World} {ks:List VK} {ao:Option Addr} {cap:Nat} {sa po o:List Nat} {P:List VP} {r:VV×Int} {a:Int}
theorem AHZ (hsa:Dg sa) (hpo:Dg po) (ho:Dg o) (hk:RdK w0 (.slice ao ks.length cap) ks) (hm:ks.map VK.p=P) {T:List Nd} (hT:tree (kd 275 po) []=T) (hres:Vd (P,sa,po) o T (kd 276 po)=r) :
  ∀W,w0.grownBy W none→Calls Tryz.prog 36 #[A8 sa po (.slice ao ks.length cap),AQ o] W fun e W'=>∃v,e=.returned v∧W.grownBy W' none∧(Sp.vt r fun _=>False).on W' v:=fun W g=>by
 subst hres hm
 exact(ADT ks ao cap sa po hsa hpo o ho T hT W (hk.kn g)).mono fun e W' h=>h.on
theorem AIi {w:World} {q:List Nat×Int} (hsa:Dg sa) (hpo:Dg po) (ho:Dg o) (hk:RdK w (.slice ao ks.length cap) ks) (hm:ks.map VK.p=P) (hres:Cz P o a=q) :
  Calls Tryz.prog 32 #[A8 sa po (.slice ao ks.length cap),AQ o,.int .i64 a] w fun e w'=>e=.returned (.tuple #[AQ q.1,.int .i64 q.2])∧w.grownBy w' none:=by
 subst hres hm
 exact ADN ks ao cap sa po hsa hpo o ho a w hk
theorem AHa {w:World} {q:List Nat×Int} (hsa:Dg sa) (hpo:Dg po) (ho:Dg o) (hk:RdK w (.slice ao ks.length cap) ks) (hm:ks.map VK.p=P) (hres:Cz P o a=q) :
  Calls Tryz.prog 42 #[A8 sa po (.slice ao ks.length cap),AQ o,.int .i64 a] w fun e w'=>e=.returned (.tuple #[AQ q.1,.int .i64 q.2])∧w.grownBy w' none:=by
 subst hres hm
 exact ABe ks ao cap sa po hsa hpo o ho a w hk
theorem Mg {w:World} {b:Bool} (hsa:Dg sa) (hpo:Dg po) (hk:RdK w (.slice ao ks.length cap) ks) (hm:ks.map VK.p=P) (hb:Cj P=b):Calls Tryz.prog 51 #[A8 sa po (.slice ao ks.length cap)] w fun e w'=>e=.returned (.bool b)∧w.grownBy w' none:=by
 subst hm
 exact KT hsa hpo hk hb
theorem LF {w:World} {b:Bool} (hsa:Dg sa) (hpo:Dg po) (hk:RdK w (.slice ao ks.length cap) ks) (hm:ks.map VK.p=P) (hb:Cj P=b):Calls Tryz.prog 40 #[A8 sa po (.slice ao ks.length cap)] w fun e w'=>e=.returned (.bool b)∧w.grownBy w' none:=by
 subst hm
 exact JK hsa hpo hk hb
end
end Go.Proofs.YtbfjfnbcmojpiaaGreat
namespace Go.Proofs.YtbfjfnbcmojpiaaGreat
def By (l:List Nat):Prop:=∀x∈l,x<256
def Gq (a b:List Nat):List Nat:=List.zipWith (fun x y=>x ^^^ y) a b
theorem KX {a b:List Nat} (h:a.length≤b.length):(Gq a b).length=a.length:=by unfold Gq;rw[List.length_zipWith];omega
theorem AAa {a b:List Nat} (ha:By a) (hb:By b):By (Gq a b):=fun x hx=>by
 unfold Gq at hx
 rw[List.mem_iff_getElem] at hx
 obtain⟨i,hi,rfl⟩:=hx
 rw[List.getElem_zipWith]
 exact Nat.xor_lt_two_pow (n:=8) (ha _ (List.getElem_mem _)) (hb _ (List.getElem_mem _))
theorem SQ:∀{a b:List Nat},a.length≤b.length→Gq (Gq a b) b=a
 | [],_,_=>rfl
 | _::_,[],h=>by simp at h
 | x::a,y::b,h=>by
  have ih:=SQ (a:=a) (b:=b) (by simpa using h)
  unfold Gq at ih ⊢
  simp only[List.zipWith_cons_cons,ih,Nat.xor_assoc,Nat.xor_self,Nat.xor_zero]
def PT (all:Bool) (keys:List (List Nat)):List Nat:=Ng (BitVec.ofNat 64 (if all then 282 else 281)) keys.flatten
def msk (k:List Nat):List Nat:=LY (BitVec.ofNat 64 283) k []
def Nr (c k:List Nat):List Nat:=Gq c (msk k)
def IK (b c:List Nat):List Nat:=Gq b (sq (GB (BitVec.ofNat 64 284) c) b.length)
def LS (c:List Nat) (a:Int) (b:List Nat):List Nat:=LY (BitVec.ofNat 64 285) c (enc a++b)
def ML (a:Int) (b:List Nat):List Nat:=Ng (BitVec.ofNat 64 280) (enc a++b)
structure Sd where
 addr:Int
 own:List (List Nat)
 joint:Int
 wr:List (List Nat)
 body:List Nat
 tag:List Nat
def Sd.zero:Sd:=⟨0,[],0,[],[],AS⟩
def MF (l:List (List Nat)) (i:Nat):List Nat:=(l[i]?).getD []
theorem ADY {l:List (List Nat)} {i:Nat} (h:i<l.length):MF l i=l[i]:=by unfold MF;rw[List.getElem?_eq_getElem h];rfl
def TV (l:List (List Nat)) (i:Nat):Bool:=decide (i=0)||E6 (MF l (i-1)) (MF l i)
def YJ (l:List (List Nat)):Bool:=(List.range l.length).all (TV l)
theorem AAb {l:List (List Nat)}:YJ l=true↔∀i,i<l.length→TV l i=true:=by unfold YJ;simp[List.all_eq_true,List.mem_range]
theorem ADZ {l:List (List Nat)} {i:Nat} (h:i<l.length) (hc:TV l i=false):YJ l=false:=by
 cases h2:YJ l with
 | false=>rfl
 | true=>rw[AAb.1 h2 i h] at hc;cases hc
theorem AAc {l:List (List Nat)} (h:∀i,i<l.length→TV l i=true):YJ l=true:=AAb.2 h
def hd (own:List (List Nat)) (joint addr:Int):Bool:=Ce addr&&(decide (joint=0)||decide (joint=1))&&decide (own.length≤16)&&YJ own
def EX (s:Sd):Bool:=hd s.own s.joint s.addr&&decide (s.body.length≤64)&&decide (s.wr.length=if s.joint=1 then s.own.length else 0)
def DY (P:List VP) (a:Int):List (List Nat)→List (List Nat)×Int
 | []=>([],0)
 | o::l=>if (Cz P o a).2=0 then ((Cz P o a).1::(DY P a l).1,(DY P a l).2) else ([],(Cz P o a).2)
def IL (P:List VP) (own:List (List Nat)) (joint addr:Int) (x:V):Sd×Int:=
 if hd own joint addr&&Cj P then
   (if own=[] then (⟨addr,[],joint,[],CD x,ML addr (CD x)⟩,0)
   else if (DY P addr own).2=0 then
     (⟨addr,own,joint,if joint=1 then (DY P addr own).1.map (Nr (PT (decide (joint=1)) (DY P addr own).1)) else [],
       IK (CD x) (PT (decide (joint=1)) (DY P addr own).1),LS (PT (decide (joint=1)) (DY P addr own).1) addr (IK (CD x) (PT (decide (joint=1)) (DY P addr own).1))⟩,0)
   else (Sd.zero,(DY P addr own).2))
 else (Sd.zero,1)
end Go.Proofs.YtbfjfnbcmojpiaaGreat
