import Derived.Test.YtbfjfnbcmojpiaaGreatBkSH
set_option linter.unusedSimpArgs false
set_option linter.unusedVariables false
set_option maxRecDepth 100000
set_option maxHeartbeats 4000000
namespace Go.Proofs.YtbfjfnbcmojpiaaGreat
open Go.RowKit Go.Shelf
theorem Vp (l:List Nd):(FJ l).all Value.oneCell'=true:=TM l
theorem Vq {w:World} {ao:Option Addr} {n cap j:Nat} {ks:List VK} {x:VK} (h:Sl w 33 (.slice ao n cap) n (ks.flatMap Ac)) (hj:j<ks.length) (hx:ks[j]=x):w.rangeAt (bO ao) (oO ao+j*33) (Ac x):=hx▸Cw h Cp hj (by decide)
theorem Jv {w:World} {ao:Option Addr} {n cap j:Nat} {ks:List VK} {x:VK} (h:Sl w 33 (.slice ao n cap) n (ks.flatMap Ac)) (hj:j<ks.length) (hx:ks[j]=x):w.rangeAt (bO ao) (oO ao+j*33) (bv x.o):=
 MJ (o:=oO ao+j*33) (k:=0) (A:=[]) (B:=bv x.o) (C:=[x.s]) (Vq h hj hx) rfl
theorem Yn  (w:World) :
  Calls Tryz.prog 114 #[.slice none 0 0] w fun e w'=>e=.returned (.slice none 0 0)∧w.grownBy w' none:=by
 refine BH Tryz.func114 rfl Tryz.ntmps114 rfl fun a0 sv0=>?_
 have HG:=World.grownBy.refl w none
 replace sv0:Sv 8 [] [(0,.slice none 0 0)] a0:=sv0
 refine AH4 fun K1 k1=>?_
 refine AH3 ?_
 refine AZ (v:=.slice none 0 0) sv0 r6 fun a2 sv2=>?_
 refine AE ?_
 refine k1 _ _ ?_
 refine AH4 fun K3 k3=>?_
 refine AH4 fun K4 k4=>?_
 refine AH3 ?_
 refine AK sv2 2 [(3,.slice none 0 0),(4,.bool true)]
  ⟨ym r5,Cm r6 (fun _=>RL Tryz.underlying54 rfl),AIA⟩ fun a5 w5 g5 sv5=>?_
 refine AE ?_
 refine k4 _ _ ?_
 refine Aq sv5 rfl rfl ?_
 refine AH4 fun K6 k6=>?_
 refine AH3 ?_
 refine AZ (v:=.slice none 0 0) sv5 r6 fun a7 sv7=>?_
 refine AE ?_
 refine k6 _ _ ?_
 replace HG:=AA HG g5
 refine AH7 ?_
 repeat refine AM ?_
 refine A3 (fn:=Tryz.f114) sv7 (A2 (p:=2) Tryz.results114 sv7 rfl rfl) ?_
 exact⟨rfl,HG⟩
theorem Vr (l:List Nd) (ad:Addr) (cap:Nat) (w:World) (h:RdT w (.slice ((some ad)) l.length cap) l) :
  Calls Tryz.prog 114 #[.slice ((some ad)) l.length cap] w fun e w'=>∃ao cap,e=.returned (.slice ao l.length cap)∧RdTg w' (.slice ao l.length cap) l∧(∀k,Ks (.slice ao l.length cap) k→w.heap.size≤k)∧w.grownBy w' none:=by
 refine BH Tryz.func114 rfl Tryz.ntmps114 rfl fun a0 sv0=>?_
 have HG:=World.grownBy.refl w none
 replace sv0:Sv 8 [] [(0,.slice ((some ad)) l.length cap)] a0:=sv0
 refine AH4 fun K1 k1=>?_
 refine AH3 ?_
 refine AZ (v:=.slice none 0 0) sv0 r6 fun a2 sv2=>?_
 refine AE ?_
 refine k1 _ _ ?_
 refine AH4 fun K3 k3=>?_
 refine AH4 fun K4 k4=>?_
 refine AH3 ?_
 refine AK sv2 2 [(3,.slice ((some ad)) l.length cap),(4,.bool false)]
  ⟨ym r5,Cm r6 (fun _=>RL Tryz.underlying54 rfl),AIA⟩ fun a5 w5 g5 sv5=>?_
 refine AE ?_
 refine k4 _ _ ?_
 refine Ax sv5 rfl rfl ?_
 refine AH8 ?_
 refine k3 _ _ ?_
 refine AH4 fun K6 k6=>?_
 refine AH3 ?_
 replace h:=h.kn g5
 replace HG:=AA HG g5
 refine FV (sv5.st w5) 3 [(5,Sp.lit0 w5.heap.size 132),(6,Sp.is (.slice ((some ad)) l.length cap)),(7,Sp.row w5.heap.size 132 34 l.length (FJ l))] rfl (by kernel_rfl) (by kernel_rfl) (by kernel_rfl)
  ⟨RO (t:=0) rfl trivial (Nat.le_refl _) (fun a w=>by kernel_rfl) (fun _ _ h=>h),ym r5,RP (news:=FJ l) AEY rfl rfl trivial rfl (fun _ _ h=>h) (oy rfl rfl) (fun _ g=>(h.kn g).1) (Vp l) h.2.2.2 (Nat.le_refl _) (fun _ _ h=>h),AIA⟩ fun a7 w7 g7 st7=>?_
 obtain⟨hn7,hd7,e7_5,e7_6,e7_7,e7_3,e7_4,e7_2,e7_0,-⟩:=st7
 obtain⟨ao8,cap8,e7_7q,ow8,fr8⟩:=e7_7
 have Vs:=JL HG fr8
 replace h:=h.kn g7
 replace HG:=AA HG g7
 have sv7:Sv 8 [] [(3,_),(4,_),(2,_),(0,_),(7,_)] a7:=⟨hn7,hd7,e7_3,e7_4,e7_2,e7_0,e7_7q,AIA⟩
 refine AZ (v:=.slice ao8 l.length cap8) sv7 r6 fun a9 sv9=>?_
 refine AE ?_
 refine k6 _ _ ?_
 refine AH7 ?_
 repeat refine AM ?_
 refine A3 (fn:=Tryz.f114) sv9 (A2 (p:=2) Tryz.results114 sv9 rfl rfl) ?_
 exact⟨_,_,rfl,⟨⟨Sl.of_own ow8,h.2.1,fun k hk=>Own.lt ow8 k hk.1,h.2.2.2⟩,Tag.of ow8⟩,fun k hk=>Vs k hk.1,HG⟩
theorem Vt {l:List Nd} {s:Value} {w:World} (h:RdT w s l):Calls Tryz.prog 114 #[s] w fun e w'=>∃ao cap,e=.returned (.slice ao l.length cap)∧RdTg w' (.slice ao l.length cap) l∧(∀k,Ks (.slice ao l.length cap) k→w.heap.size≤k)∧w.grownBy w' none:=by
 obtain⟨ao,cap,rfl⟩:=h.shape
 cases ao with
 | some ad=>exact Vr l ad cap w h
 | none =>
  have h0:l.length=0∧cap=0:=by
   obtain⟨⟨_,ao',cap',e,h1,_,h3,_⟩,_⟩:=h
   simp only[Value.slice.injEq,true_and] at e
   obtain⟨rfl,rfl⟩:=e
   have:=h3 rfl
   omega
  obtain⟨h1,rfl⟩:=h0
  obtain rfl:l=[]:=List.eq_nil_of_length_eq_zero h1
  exact(Yn w).mono fun e w' ⟨h1,h2⟩=>⟨none,0,h1,⟨h.kn h2,fun k hk=>(Qt k hk).elim⟩,fun k hk=>(Qt k hk).elim,h2⟩
theorem AAj {w0:World} {l:List Nd} {s:Value} (h:RdT w0 s l):∀W,w0.grownBy W none→Calls Tryz.prog 114 #[s] W fun e W'=>∃v,e=.returned v∧W.grownBy W' none∧(Sp.cl w0.heap.size l).on W' v:=fun W g =>
 (Vt (h.kn g)).mono fun e W' ⟨ao,cap,h1,h2,h3,h4⟩=>⟨_,h1,h4,ao,cap,rfl,h2,fun k hk=>Nat.le_trans g.size (h3 k hk)⟩
theorem Tr (ks:List VK) (ao:Option Addr) (cap:Nat) (sa po:List Nat) (hsa:Dg sa) (hpo:Dg po) (w:World) (hr:RdK w (.slice ao ks.length cap) ks) (h64:ks.length≤64) :
   Calls Tryz.prog 72 #[An sa po (.slice ao ks.length cap)] w fun e w'=>∃A ms,e=.returned (An sa po (.slice (some ⟨A,0,none⟩) ks.length ks.length))∧ms.map VK.p=ks.map VK.p∧Own w' 58 33 (.slice (some ⟨A,0,none⟩) ks.length ks.length) ks.length (ms.flatMap Ac)∧KsT w' ms∧w.heap.size≤A∧(∀k,DG ms k→w.heap.size≤k∧k≠A)∧w.grownBy w' none:=by
 refine BH Tryz.func72 rfl Tryz.ntmps72 rfl fun a0 sv0=>?_
 have HG:=World.grownBy.refl w none
 replace sv0:Sv 33 [] [(0,An sa po (.slice ao ks.length cap))] a0:=sv0
 refine AH4 fun K1 k1=>?_
 refine AH3 ?_
 refine BQ sv0 r6 (Bm hsa hpo (.slice ao ks.length cap) rfl) fun a2 w2 Bv E4 g2 z2 AX sv2=>?_
 have ACs:=Bp HG E4
 replace HG:=AA HG g2
 refine Ap (T:=36) (Z:=([bv AS,bv AS,[.slice none 0 0]].flatten)) sv2 rfl rfl rfl (fun a w=>by kernel_rfl) fun a3 w3 MV Gz g3 z3 B6 sv3=>?_
 have Rb:=As AX Gz
 have Ia:=Bp HG Gz
 replace AX:=AC g3 AX
 replace hr:=(hr.kn g2).kn g3
 replace HG:=AA HG g3
 refine AE ?_
 refine k1 _ _ ?_
 refine AH4 fun K4 k4=>?_
 refine AH3 ?_
 refine FV (sv3.st w3) 4 [(6,Sp.is (pk Bv 64)),(7,Sp.is (.slice ao ks.length cap)),(8,Sp.is (.int .i64 ((ks.length:Nat)))),(9,Sp.made w3.heap.size 58 33 ks.length ((List.replicate ks.length N9).flatMap Ac))] rfl (by kernel_rfl) (by kernel_rfl) (by kernel_rfl)
   ⟨yf r6 (fun _=>by kernel_rfl),yp (i:=2) r6 (Du (.slice ao ks.length cap) rfl) AX rfl (by simp[AI,AU,hsa.1,hpo.1]),Be (Tryz.underlying34) rfl rfl trivial (oy rfl rfl) (fun _=>rfl),ACf (m:=ks.length) (xs:=(List.replicate ks.length N9).flatMap Ac) To rfl rfl trivial (Nat.le_refl _) (oy rfl rfl) (by omega) (AFw _).symm (fun _ _ h=>h),AIA⟩ fun a5 w5 g5 st5=>?_
 obtain⟨hn5,hd5,e5_6,e5_7,e5_8,e5_9,e5_2,e5_1,e5_0,-⟩:=st5
 obtain⟨A,e5_9q,ow,geA⟩:=e5_9
 have frA:∀k,BO (.slice ((some ⟨A,0,none⟩)) ks.length ks.length) k→w3.heap.size≤k:=fun k hk=>(Option.some.inj hk)▸geA
 have GQ:=CY frA AX
 have GR:=CY frA B6
 have ap_hr_ow:=ADz (hr.lt) frA
 have lo_ow:=JL HG frA
 replace AX:=AC g5 AX
 have sv5:Sv 33 [] [(2,_),(1,_),(0,_),(9,_)] a5:=⟨hn5,hd5,e5_2,e5_1,e5_0,e5_9q,AIA⟩
 refine AZ (v:=.slice ((some ⟨A,0,none⟩)) ks.length ks.length) sv5 r6 fun a6 sv6=>?_
 refine AE ?_
 refine k4 _ _ ?_
 refine AH4 fun K7 k7=>?_
 refine AH4 fun K8 k8=>?_
 refine AH3 ?_
 refine AK sv6 4 [(10,pk Bv 64),(11,.slice ao ks.length cap),(12,.int .i64 ((ks.length:Nat))),(13,.int .i64 0)]
   ⟨yf r6 (fun _=>by kernel_rfl),yp (i:=2) r6 (Du (.slice ao ks.length cap) rfl) AX rfl (by simp[AI,AU,hsa.1,hpo.1]),Be (Tryz.underlying34) rfl rfl trivial (oy rfl rfl) (fun _=>rfl),D8 (.inl rfl) rfl trivial (fun _=>rfl),AIA⟩ fun a9 w9 g9 sv9=>?_
 refine AE ?_
 refine k8 _ _ ?_
 refine BB fun Q10 x10 y10 r10 o10=>?_
 replace AX:=AC g9 AX
 replace B6:=AC g9 (AC g5 B6)
 replace hr:=(hr.kn g5).kn g9
 replace ow:=ow.kn g9
 replace HG:=AA (AA HG g5) g9
 have kr:=KsT.rep w9 ks.length
 have Ij:∀k,DG (List.replicate ks.length N9) k→k≠Bv:=fun k hk=>(JM _ _ hk).elim
 have Ik:∀k,DG (List.replicate ks.length N9) k→k≠MV:=fun k hk=>(JM _ _ hk).elim
 have ap_kr_ow:∀k,DG (List.replicate ks.length N9) k→¬BO (.slice ((some ⟨A,0,none⟩)) ks.length ks.length) k:=fun k hk=>(JM _ _ hk).elim
 refine wp_loop (fun a w'=>∃(i:Nat) (ms:List VK),(i≤ks.length)∧(ms.length=ks.length)∧(∀j,j<i→(ms.map VK.p)[j]?=(ks.map VK.p)[j]?)∧(∀k,DG ms k→w.heap.size≤k)∧Sv 33 [] [(13,.int .i64 ((i:Int))),(10,pk Bv 64),(11,.slice ao ks.length cap),(12,.int .i64 ((ks.length:Nat))),(3,.slice ((some ⟨A,0,none⟩)) ks.length ks.length),(2,pt MV),(1,pt Bv),(0,An sa po (.slice ao ks.length cap)),(9,.slice ((some ⟨A,0,none⟩)) ks.length ks.length)] a∧w.grownBy w' none∧w'.heap[Bv]?=some (.cells ([bv sa,bv po,[.slice ao ks.length cap]].flatten).toArray 36 (0,0))∧w'.heap[MV]?=some (.cells (([bv AS,bv AS,[.slice none 0 0]].flatten)).toArray 36 (0,0))∧RdK w' (.slice ao ks.length cap) ks∧Own w' 58 33 (.slice ((some ⟨A,0,none⟩)) ks.length ks.length) ks.length (ms.flatMap Ac)∧KsT w' ms∧(∀k,BO (.slice ((some ⟨A,0,none⟩)) ks.length ks.length) k→k≠Bv)∧(∀k,BO (.slice ((some ⟨A,0,none⟩)) ks.length ks.length) k→k≠MV)∧(∀k,Kh (.slice ao ks.length cap) ks k→¬BO (.slice ((some ⟨A,0,none⟩)) ks.length ks.length) k)∧(∀k,DG ms k→¬BO (.slice ((some ⟨A,0,none⟩)) ks.length ks.length) k)∧(∀k,BO (.slice ((some ⟨A,0,none⟩)) ks.length ks.length) k→w.heap.size≤k)∧(∀k,DG ms k→k≠Bv)∧(∀k,DG ms k→k≠MV)) (fun a _=>(ks.length-intOf (a.tmps.getD 13 undef)).toNat) ⟨0,List.replicate ks.length N9,Nat.zero_le _,by simp,fun j hj=>by omega,fun k hk=>(JM _ _ hk).elim,⟨sv9.1,sv9.2.1,sv9.2.2.2.2.2.1,sv9.2.2.1,sv9.2.2.2.1,sv9.2.2.2.2.1,sv9.2.2.2.2.2.2.1,sv9.2.2.2.2.2.2.2.1,(AJ sv9).1,(AJ sv9).2.1,(AJ sv9).2.2.1,AIA⟩,HG,AX,B6,hr,ow,kr,GQ,GR,ap_hr_ow,ap_kr_ow,lo_ow,Ij,Ik⟩ fun a11 w11 hI11=>?_
 clear AX
 clear B6
 clear hr
 clear ow
 clear kr
 clear HG
 obtain⟨i,ms,hin,hms,hp,hfr,CC,HG,AX,B6,hr,ow,kr,GQ,GR,ap_hr_ow,ap_kr_ow,lo_ow,Ij,Ik⟩:=hI11
 refine AH4 fun K12 k12=>?_
 by_cases hi:i<ks.length
 · obtain⟨x,hx_x⟩:∃x,ks[i]'hi=x:=⟨_,rfl⟩
   have him:i<ms.length:=by omega
   obtain⟨z,hx_z⟩:∃x,ms[i]'him=x:=⟨_,rfl⟩
   refine AH3 ?_
   refine AK CC 1 [(14,.bool true)]
    ⟨Gs r7 (fun _=>Bb (decide_eq_true (by omega))),AIA⟩ fun a13 w13 g13 Dx=>?_
   refine AE ?_
   refine k12 _ _ ?_
   refine AH4 fun K14 k14=>?_
   refine Aq Dx rfl rfl ?_
   refine AH8 ?_
   refine k14 _ _ ?_
   refine AH4 fun K15 k15=>?_
   refine BB fun Q16 x16 y16 r16 o16=>?_
   refine AH4 fun K17 k17=>?_
   refine AH3 ?_
   replace hr:=hr.kn g13
   refine AK Dx 3 [(15,.int .i64 ((i:Int))),(16,pk ((bO ao)) (oO ao+i*33)),(17,Ft x)]
    ⟨ym r5,BA rq8 (fun w=>CD Tryz.underlying34 (by kernel_rfl) (hr.1.1) (by omega) (rfl) w),Bn r6 (fun _ g=>Ad (RQ x) (RdK.keyX (hr.kn g) rfl hi hx_x)),AIA⟩ fun a18 w18 g18 CF=>?_
   replace AX:=AC g18 (AC g13 AX)
   replace B6:=AC g18 (AC g13 B6)
   replace hr:=hr.kn g18
   replace ow:=(ow.kn g13).kn g18
   replace kr:=(kr.kn g13).kn g18
   replace HG:=AA (AA HG g13) g18
   refine Ap (T:=58) (Z:=([bv AS,[.slice none 0 0]].flatten)) CF rfl rfl rfl (fun a w=>by kernel_rfl) fun a19 w19 XJ H0 g19 z19 OK Dv=>?_
   have Pe:=As AX H0
   have Pf:=As B6 H0
   have AAk:=Bp HG H0
   have Ts:=Av (hr.lt) H0
   have Tt:=Av (Own.ltS ow) H0
   have Mx:=Av (kr.lt) H0
   refine AZ (v:=.int .i64 ((i:Int))) Dv r6 fun a20 Dl=>?_
   refine Am Dl r7 (RQ x) OK (by first|rfl|simp[Ac,AI,AU,x.ho.1]) fun w21 g21 h21=>?_
   replace AX:=Aa g21 (AC g19 AX) (Ne.symm Pe)
   replace B6:=Aa g21 (AC g19 B6) (Ne.symm Pf)
   replace hr:=(hr.kn g19).offR g21 (AQ Ts)
   replace ow:=(ow.kn g19).offR g21 (AQ Tt)
   replace HG:=AD (AA HG g19) g21 AAk
   replace OK:=h21
   refine AE ?_
   refine k17 _ _ ?_
   refine C6 (Dl.st w21) (by kernel_rfl) 11 [(18,Sp.is (.slice ((some ⟨A,0,none⟩)) ks.length ks.length)),(19,Sp.is (.int .i64 ((i:Int)))),(20,Sp.is (pt XJ)),(21,Sp.is (AP x.o)),(22,Sp.is (pk XJ 32)),(23,Sp.is (pk XJ 32)),(24,Sp.is (VK.s x)),(25,Sp.cl w21.heap.size x.l),(26,Sp.ct w21.heap.size x.l),(27,Sp.ck w21.heap.size x.o x.l),(28,Sp.is (pk ((bO ((some ⟨A,0,none⟩)))) (oO ((some ⟨A,0,none⟩))+i*33)))] rfl (by kernel_rfl) (by kernel_rfl) (by kernel_rfl) [] (by kernel_rfl)
    ⟨ym r5,ym r5,yf r6 (fun _=>by kernel_rfl),yp (i:=0) r6 (Bj x.o x.ho.1) OK rfl rfl,yf r6 (fun _=>by kernel_rfl),yf r6 (fun _=>by kernel_rfl),yp (i:=1) r6 (AGz (VK.s x) rfl) OK rfl (by simp[AI,AU,x.ho.1]),Ah [VK.s x] Tryz.func114 (by kernel_rfl) rq4 ⟨(oy rfl rfl),AIA⟩ (AAj (hr.kt hi hx_x)),Js rfl rfl trivial rfl (fun W _ av h=>match av,h with|[u],⟨h1,_⟩=>AFx h1),Js rfl rfl trivial rfl (fun W _ av h=>match av,h with|[u,t],⟨h1,h2,_⟩=>AAQ x.ho h1 h2),BA rq8 (fun w=>CD Tryz.underlying34 (by kernel_rfl) (Sl.of_own ow) (by omega) (rfl) w),AIA⟩ trivial
    [] (by kernel_rfl) trivial ⟨.inl rfl,.inl rfl,.inl rfl,.inl rfl,.inl rfl,.inl rfl,.inl rfl,.inl rfl,.inl rfl,.inl rfl,.inl rfl,AIA⟩ (by kernel_rfl) fun a22 w22 g22 st22 nd22=>?_
   obtain⟨hn22,hd22,e22_18,e22_19,e22_20,e22_21,e22_22,e22_23,e22_24,e22_25,e22_26,e22_27,e22_28,e22_4,e22_5,e22_15,e22_16,e22_17,e22_14,e22_13,e22_10,e22_11,e22_12,e22_3,e22_2,e22_1,e22_0,e22_9,-⟩:=st22
   obtain⟨y,e22_27q,hyo,hyl,rt,frB⟩:=e22_27
   have HG0:=HG
   have Vu:=CY frB AX
   have Vv:=CY frB B6
   have Tu:=CY frB OK
   have ap_rt_ow:=AG3 (Own.ltS ow) frB
   replace ow:=ow.kn g22
   have CU:Sv 33 [] [(4,_),(5,_),(15,_),(16,_),(17,_),(14,_),(13,_),(10,_),(11,_),(12,_),(3,_),(2,_),(1,_),(0,_),(9,_),(27,_),(28,_)] a22:=⟨hn22,hd22,e22_4,e22_5,e22_15,e22_16,e22_17,e22_14,e22_13,e22_10,e22_11,e22_12,e22_3,e22_2,e22_1,e22_0,e22_9,e22_27q,e22_28,AIA⟩
   refine IS (c:=Ac) (el:=y) CU rfl rfl rfl rfl rfl rfl rfl (RQ y) ow Cp (by decide) (by first|omega|(simp only[List.length_set];omega)) rfl fun w23 g23 h23=>?_
   replace AX:=AF g23 (AC g22 AX) (fun e=>GQ _ (Cx (j:=i) ow (by omega) rfl) (Option.some.inj e).symm)
   replace B6:=AF g23 (AC g22 B6) (fun e=>GR _ (Cx (j:=i) ow (by omega) rfl) (Option.some.inj e).symm)
   replace hr:=(hr.kn g22).offR g23 (fun k hk e=>ap_hr_ow k hk (Cx (j:=i) ow (by omega) e))
   replace kr:=(((kr.kn g19).offR g21 (AQ Mx)).kn g22).offR g23 (fun k hk e=>ap_kr_ow k hk (Cx (j:=i) ow (by omega) e))
   replace rt:=rt.offR g23 (fun k hk e=>ap_rt_ow k hk (Cx (j:=i) ow (by omega) e))
   replace HG:=CN (AA HG g22) g23 fun k e=>lo_ow k (Cx (j:=i) ow (by omega) e)
   refine AE ?_
   have kr2:=KsT.set kr (x:=y) rt i
   have Tv:∀k,DG (ms.set i y) k→k≠Bv:=fun k hk=>(Hy hk).elim (Ij k) (Vu k)
   have Tw:∀k,DG (ms.set i y) k→k≠MV:=fun k hk=>(Hy hk).elim (Ik k) (Vv k)
   have ACt:∀k,DG (ms.set i y) k→k≠XJ:=fun k hk=>(Hy hk).elim (Mx k) (Tu k)
   have ap_kr2_ow:∀k,DG (ms.set i y) k→¬BO (.slice ((some ⟨A,0,none⟩)) ks.length ks.length) k:=fun k hk=>(Hy hk).elim (ap_kr_ow k) (ap_rt_ow k)
   refine y16 _ _ ?_
   refine k15 _ _ ?_
   refine AH3 ?_
   refine AK CU 1 [(29,.int .i64 (((i+1:Nat):Int)))]
    ⟨Cm r6 (fun _=>DH (by rw[A7 (by omega) (by omega)];omega)),AIA⟩ fun a24 w24 g24 Dw=>?_
   refine AK (Dw.dl [13]) 1 [(13,.int .i64 (((i+1:Nat):Int)))]
    ⟨ym r5,AIA⟩ fun a25 w25 g25 Cu=>?_
   have I8:=AA g24 g25
   refine AE ?_
   replace AX:=AC I8 AX
   replace B6:=AC I8 B6
   replace hr:=hr.kn I8
   replace ow:=h23.kn I8
   replace kr2:=kr2.kn I8
   replace HG:=AA HG I8
   exact⟨⟨i+1,ms.set i y,by omega,by rw[List.length_set];exact hms,ACg hms hi hx_x hyo hyl hp,fun k hk=>(Hy hk).elim (hfr k) fun h=>Nat.le_trans HG0.size (frB k h),⟨Cu.1,Cu.2.1,Cu.2.2.1,(AJ Cu).2.2.1,(AJ Cu).2.2.2.1,(AJ Cu).2.2.2.2.1,(AJ Cu).2.2.2.2.2.1,(AJ Cu).2.2.2.2.2.2.1,(AJ Cu).2.2.2.2.2.2.2.1,(AJ (AJ Cu)).1,(AJ (AJ Cu)).2.1,AIA⟩,HG,AX,B6,hr,ow,kr2,GQ,GR,ap_hr_ow,ap_kr2_ow,lo_ow,Tv,Tw⟩,by rw[show _=_ from Cu.2.2.1,show _=_ from CC.2.2.1];simp[intOf];omega⟩
 · have hall:=AEq hms hi hp
   refine AH3 ?_
   refine AK CC 1 [(14,.bool false)]
    ⟨Gs r7 (fun _=>Bb (decide_eq_false (by omega))),AIA⟩ fun a26 w26 g26 CW=>?_
   refine AE ?_
   refine k12 _ _ ?_
   refine AH4 fun K27 k27=>?_
   refine Ax CW rfl rfl ?_
   refine wp_exit ?_
   repeat refine CH ?_
   refine x10 _ _ ?_
   refine k7 _ _ ?_
   refine AH4 fun K28 k28=>?_
   refine AH3 ?_
   refine AK CW 2 [(30,.slice ((some ⟨A,0,none⟩)) ks.length ks.length),(31,pk Bv 64)]
    ⟨ym r5,yf r6 (fun _=>by kernel_rfl),AIA⟩ fun a29 w29 g29 CK=>?_
   have Hz:=AA g26 g29
   refine KG (L:=[bv sa,bv po,[.slice ao ks.length cap]]) (i:=2) CK r7 (Du (.slice ((some ⟨A,0,none⟩)) ks.length ks.length) rfl) (AC Hz AX) rfl (by simp[AI,AU,hsa.1,hpo.1]) rfl fun w30 g30 h30=>?_
   replace B6:=Ak Hz g30 B6 Rb
   replace AX:=h30
   refine AE ?_
   refine k28 _ _ ?_
   refine AH4 fun K31 k31=>?_
   refine AH3 ?_
   refine AK CK 1 [(32,An sa po (.slice ((some ⟨A,0,none⟩)) ks.length ks.length))]
    ⟨yl r6 (Bm hsa hpo (.slice ((some ⟨A,0,none⟩)) ks.length ks.length) rfl) AX,AIA⟩ fun a32 w32 g32 CO=>?_
   refine Am CO r7 (Bm hsa hpo (.slice ((some ⟨A,0,none⟩)) ks.length ks.length) rfl) (AC g32 B6) (by first|rfl|simp[Ac,AI,AU,hsa.1,hpo.1]) fun w33 g33 h33=>?_
   replace ow:=(((ow.kn Hz).offR g30 (AQ GQ)).kn g32).offR g33 (AQ GR)
   replace kr:=(((kr.kn Hz).offR g30 (AQ Ij)).kn g32).offR g33 (AQ Ik)
   replace HG:=AD (AA (AD (AA HG Hz) g30 ACs) g32) g33 Ia
   replace B6:=h33
   refine AE ?_
   refine k31 _ _ ?_
   refine AH7 ?_
   repeat refine AM ?_
   refine A3 (fn:=Tryz.f72) CO (EA (p:=2) Tryz.results72 CO rfl rfl (Bm hsa hpo (.slice ((some ⟨A,0,none⟩)) ks.length ks.length) rfl) B6) ?_
   exact⟨A,ms,rfl,hall,ow,kr,lo_ow _ rfl,fun k hk=>⟨hfr k hk,fun e=>ap_kr_ow k hk (e▸rfl)⟩,HG⟩
def TagV (w:World) (k:Nat):Prop:=TagB w k∨∃c fr,w.heap[k]?=some (.cells c 58 fr)
theorem TagV.keep {w w':World} {k:Nat} (h:TagV w k) {row:Option Nat} (g:w.grownBy w' row) (hb:row≠some k):TagV w' k:=h.imp (·.keep g hb) fun⟨c,fr,h1⟩=>⟨c,fr,AF g h1 fun e=>hb e.symm⟩
def VRes (w w':World) (r:VV×Int) (fp:Nat→Prop) (e:Ending):Prop:=∃ao cap ks,e=.returned (.tuple #[An r.1.2.1 r.1.2.2 (.slice ao ks.length cap),.int .i64 r.2])∧ks.map VK.p=r.1.1∧RdK w' (.slice ao ks.length cap) ks∧(∀k,Kh (.slice ao ks.length cap) ks k→fp k∨TagV w' k)∧w.grownBy w' none
theorem VRes.zero {w w':World} {r:VV×Int} {fp:Nat→Prop} {c:Int} (hr:r=(AAl,c)) (h:w.grownBy w' none):VRes w w' r fp (.returned (.tuple #[An AS AS (.slice none 0 0),.int .i64 c])):=by
 subst hr
 exact⟨none,0,[],rfl,rfl,RdK.nil w',fun k hk=>(LM k hk).elim,h⟩
theorem VRes.mk2 {w w':World} {r:VV×Int} {fp:Nat→Prop} {P:List VP} {sa po:List Nat} {c:Int} {ao:Option Addr} {n cap:Nat} {ks:List VK} (hr:r=((P,sa,po),c)) (hp:ks.map VK.p=P) (ho:Own w' 58 33 (.slice ao n cap) n (ks.flatMap Ac)) (hk:KsR w' ks) (h2:∀k,DG ks k→fp k∨TagB w' k)
  (h:w.grownBy w' none):VRes w w' r fp (.returned (.tuple #[An sa po (.slice ao n cap),.int .i64 c])):=by
 obtain rfl:=Own.rdk ho
 subst hr
 exact⟨ao,cap,ks,rfl,hp,⟨ho.sb,hk⟩,fun k hk=>hk.elim (fun h=>.inr (.inr (Own.block ho h))) (fun h=>(h2 k h).imp id .inl),h⟩
theorem VRes.mk {w w':World} {r:VV×Int} {fp:Nat→Prop} {P:List VP} {sa po:List Nat} {c:Int} {ao:Option Addr} {n cap:Nat} {ks:List VK} (hr:r=((P,sa,po),c)) (hp:ks.map VK.p=P) (ho:Own w' 58 33 (.slice ao n cap) n (ks.flatMap Ac)) (hk:KsT w' ks)
 (h:w.grownBy w' none):VRes w w' r fp (.returned (.tuple #[An sa po (.slice ao n cap),.int .i64 c])):=VRes.mk2 hr hp ho hk.1 (fun k hk'=>.inr (hk.2 k hk')) h
theorem VRes.same {w w':World} {r:VV×Int} {fp:Nat→Prop} {P:List VP} {sa po:List Nat} {c:Int} {ao:Option Addr} {cap:Nat} {ks:List VK} (hr:r=((P,sa,po),c)) (hp:ks.map VK.p=P) (ho:RdK w' (.slice ao ks.length cap) ks)
  (h1:∀k,Kh (.slice ao ks.length cap) ks k→fp k) (h:w.grownBy w' none):VRes w w' r fp (.returned (.tuple #[An sa po (.slice ao ks.length cap),.int .i64 c])):=by
 subst hr
 exact⟨ao,cap,ks,rfl,hp,ho,fun k hk=>.inl (h1 k hk),h⟩
def Sp.cln (B:Nat) (sa po:List Nat) (n:Nat) (P:List VP):Sp:=⟨fun w v=>∃(A:Nat) (ms:List VK),v=An sa po (.slice (some ⟨A,0,none⟩) n n)∧ms.map VK.p=P∧Own w 58 33 (.slice (some ⟨A,0,none⟩) n n) n (ms.flatMap Ac)∧KsT w ms∧B≤A∧∀k,DG ms k→B≤k∧k≠A,
 fun _ _ _ hg ⟨A,ms,h1,h2,h3,h4,h5,h6⟩=>⟨A,ms,h1,h2,h3.kn hg,h4.kn hg,h5,h6⟩⟩
theorem Yo {w0:World} {ks:List VK} {ao:Option Addr} {cap:Nat} {sa po:List Nat} (hsa:Dg sa) (hpo:Dg po) (hr:RdK w0 (.slice ao ks.length cap) ks) (h64:ks.length≤64):∀W,w0.grownBy W none→Calls Tryz.prog 72 #[An sa po (.slice ao ks.length cap)] W fun e W'=>∃v,e=.returned v∧W.grownBy W' none∧(Sp.cln w0.heap.size sa po ks.length (ks.map VK.p)).on W' v:=fun W g =>
 (Tr ks ao cap sa po hsa hpo W (hr.kn g) h64).mono fun e W' ⟨A,ms,h1,h2,h3,h4,h5,h6,h7⟩=>⟨_,h1,h7,A,ms,rfl,h2,h3,h4,Nat.le_trans g.size h5,fun k hk=>⟨Nat.le_trans g.size (h6 k hk).1,(h6 k hk).2⟩⟩
theorem KsT.ins {w:World} {ms:List VK} (h:KsT w ms) {x:VK} (hx:RdTg w x.s x.l) (i:Nat):KsT w (ms.take i++x::ms.drop i):=by
 have hh:∀k,k∈ms.take i++x::ms.drop i→k∈ms∨k=x:=fun k hk=>by
  rcases List.mem_append.1 hk with hk|hk
  · exact .inl (List.mem_of_mem_take hk)
  · rcases List.mem_cons.1 hk with rfl|hk
    · exact .inr rfl
    · exact .inl (List.mem_of_mem_drop hk)
 exact⟨fun k hk=>(hh k hk).elim (h.1 k) fun e=>e▸hx.1,fun b ⟨k,hk,hb⟩=>(hh k hk).elim (fun h1=>h.2 b ⟨k,h1,hb⟩) fun e=>hx.2 b (e▸hb)⟩
def Sp.insr (B n:Nat) (ks:List VK):Sp:=⟨fun w v=>∃ao cap,v=.slice ao n cap∧Own w 58 33 (.slice ao n cap) n (ks.flatMap Ac)∧∀k,BO (.slice ao n cap) k→B≤k,fun _ _ _ hg ⟨ao,cap,h1,h2,h3⟩=>⟨ao,cap,h1,h2.kn hg,h3⟩⟩
theorem AEy {w0:World} {ms:List VK} {x:VK} {i A V n:Nat} (hn:n=ms.length) (hown:Own w0 58 33 (.slice (some ⟨A,0,none⟩) n n) n (ms.flatMap Ac)) (hv:w0.heap[V]?=some (.cells (Ac x).toArray 58 (0,0))) (hi:i≤n) (h64:n≤64) :
  ∀W,w0.grownBy W none→Calls Tryz.prog 83 #[.slice (some ⟨A,0,none⟩) n n,.int .i64 (i:Int),.slice (some ⟨V,0,none⟩) 1 1] W fun e W'=>∃v,e=.returned v∧W.grownBy W' none∧(Sp.insr w0.heap.size (n+1) (ms.take i++x::ms.drop i)).on W' v:=fun W g=>by
 subst hn
 exact(Tp ms x i A V W (hown.kn g) (AF g hv (by simp)) hi (by omega)).mono fun e W' ⟨v,h1,h2,h3,h4⟩=>by
  obtain⟨ao,cap,rfl,_⟩:=(Sl.of_own h2).shape
  exact⟨_,h1,h3,ao,cap,rfl,h2,fun k hk=>Nat.le_trans g.size (h4 k hk)⟩
theorem ACu {ms:List VK} {P:List VP} {o:List Nat} {T:List Nd} {x:VK} {i:Nat} (h:ms.map VK.p=P) (hi:pos P o=i) (ho:x.o=o) (hl:x.l=T):(ms.take i++x::ms.drop i).map VK.p=KU P o T:=by
 unfold KU
 rw[hi,List.map_append,List.map_cons,List.map_take,List.map_drop,h]
 simp[VK.p,ho,hl]
theorem Tx {w:World} {ks ms:List VK} {A n:Nat} {sa po o:List Nat} (hsa:Dg sa) (hpo:Dg po) (ho:Dg o) (hm:ms.map VK.p=ks.map VK.p) (ow:Own w 58 33 (.slice (some ⟨A,0,none⟩) n n) n (ms.flatMap Ac)) (kr:KsR w ms) (hv:CR (ks.map VK.p)=true) {b:Bool} (hb:Ix (ks.map VK.p) o=b) {i:Nat} (hi:pos (ks.map VK.p) o=i) :
  Calls Tryz.prog 71 #[An sa po (.slice (some ⟨A,0,none⟩) n n),AP o] w fun e w'=>e=.returned (.tuple #[.int .i64 (i:Int),.bool b])∧w.grownBy w' none:=by
 obtain rfl:=Own.rdk ow
 rw[←hm] at hv hb hi
 exact Vm hsa hpo ho ⟨ow.sb,kr⟩ hv hb hi
theorem AAm (ks:List VK) (ao:Option Addr) (cap:Nat) (sa po:List Nat) (hsa:Dg sa) (hpo:Dg po) (o:List Nat) (ho:Dg o) (T:List Nd) (hT:tree (kd 275 po) []=T) (w:World) (hr:RdK w (.slice ao ks.length cap) ks) :
   Calls Tryz.prog 36 #[An sa po (.slice ao ks.length cap),AP o] w fun e w'=>VRes w w' (J4 (ks.map VK.p,sa,po) o T (kd 276 po)) (fun _=>False) e:=by
 have hTl:0<T.length:=by rw[←hT,JG];exact Nat.zero_lt_one
 refine DP Tryz.func36 rfl Tryz.ntmps36 rfl fun a0 sv0=>?_
 have HG:=World.grownBy.refl w none
 replace sv0:Sv 47 [] [(0,An sa po (.slice ao ks.length cap)),(1,AP o)] a0:=sv0
 refine AH4 fun K1 k1=>?_
 refine AH3 ?_
 refine BQ sv0 r6 (Bm hsa hpo (.slice ao ks.length cap) rfl) fun a2 w2 CJ Cs g2 z2 AH sv2=>?_
 have E5:=Bp HG Cs
 refine BQ sv2 r6 (Bj o ho.1) fun a3 w3 Bw EH g3 z3 AL sv3=>?_
 have Il:=As AH EH
 replace AH:=AC g3 AH
 replace hr:=(hr.kn g2).kn g3
 replace HG:=AA (AA HG g2) g3
 refine Ap (T:=36) (Z:=([bv AS,bv AS,[.slice none 0 0]].flatten)) sv3 rfl rfl rfl (fun a w=>by kernel_rfl) fun a4 w4 FG Bz g4 z4 AN sv4=>?_
 have A8:=As AH Bz
 have BJ:=As AL Bz
 have B7:=Bp HG Bz
 have Bo:=Av (hr.lt) Bz
 replace AH:=AC g4 AH
 replace AL:=AC g4 AL
 replace hr:=hr.kn g4
 replace HG:=AA HG g4
 refine Ap (T:=38) (Z:=[.int .i64 0]) sv4 rfl rfl rfl (fun a w=>by kernel_rfl) fun a5 w5 Ty Dz g5 z5 Al sv5=>?_
 have CB:=As AH Dz
 have CT:=As AL Dz
 have Ay:=As AN Dz
 have EJ:=Bp HG Dz
 have EC:=Av (hr.lt) Dz
 replace AH:=AC g5 AH
 replace AL:=AC g5 AL
 replace AN:=AC g5 AN
 replace hr:=hr.kn g5
 replace HG:=AA HG g5
 refine AE ?_
 refine k1 _ _ ?_
 refine AH4 fun K6 k6=>?_
 refine AH3 ?_
 refine Fg sv5 rfl rfl rfl rfl rfl rfl fun a7 sv7=>?_
 refine D9 sv7 rfl (dd:={ target:=.fn (.func 81) #[pt FG,pt Ty],args:=#[] }) rfl (by have e1:=sv7.ev (x:=.tmp 9) rfl rfl;simp[execOp,resolve,Deferred.ofValue,e1];try rfl) fun a8 sv8=>?_
 refine AE ?_
 refine k6 _ _ ?_
 refine AH4 fun K9 k9=>?_
 refine AH4 fun K10 k10=>?_
 cases hv:CR (ks.map VK.p)
 · refine AH3 ?_
   refine AK sv8 3 [(10,An sa po (.slice ao ks.length cap)),(11,.bool false),(12,.bool true)]
     ⟨yl r6 (Bm hsa hpo (.slice ao ks.length cap) rfl) AH,Ah [An sa po (.slice ao ks.length cap)] Tryz.func51 (by kernel_rfl) rq4 ⟨(oy rfl rfl),AIA⟩ (Ao fun W g=>JS hsa hpo (hr.kn g) hv),C3 r6 (fun _=>Bf),AIA⟩ fun a11 w11 g11 CC=>?_
   refine AE ?_
   refine k10 _ _ ?_
   refine Aq CC rfl rfl ?_
   refine AH4 fun K12 k12=>?_
   refine AH3 ?_
   replace AH:=AC g11 AH
   replace AL:=AC g11 AL
   replace AN:=AC g11 AN
   replace Al:=AC g11 Al
   refine AK CC 1 [(13,An AS AS (.slice none 0 0))]
     ⟨BM (vs:=[]) rfl rfl trivial trivial (fun _=>bV0 _) (fun _=>rfl),AIA⟩ fun a13 w13 g13 Dx=>?_
   refine Am Dx r7 (Bm AV AV (.slice none 0 0) rfl) (AC g13 AN) (by first|rfl|simp[Ac,AI,AU,AV.1,AV.1]) fun w14 g14 h14=>?_
   replace Al:=Ak g13 g14 Al Ay
   refine Am Dx r7 (Ep 1) Al rfl fun w15 g15 h15=>?_
   replace AH:=Aa g15 (Ak g13 g14 AH (Ne.symm A8)) (Ne.symm CB)
   replace AL:=Aa g15 (Ak g13 g14 AL (Ne.symm BJ)) (Ne.symm CT)
   replace AN:=Aa g15 h14 (Ne.symm Ay)
   replace hr:=(((hr.kn g11).kn g13).offR g14 (AQ Bo)).offR g15 (AQ EC)
   replace HG:=AD (AD (AA (AA HG g11) g13) g14 B7) g15 EJ
   replace Al:=h15
   refine AE ?_
   refine k12 _ _ ?_
   refine AH7 ?_
   repeat refine AM ?_
   refine BI (fn:=Tryz.f36) Dx (Bc (p:=4) (q:=5) Tryz.results36 Dx rfl rfl rfl rfl (Bm AV AV (.slice none 0 0) rfl) (Ep 1) AN Al) (Bh Tryz.func81 (by kernel_rfl) rfl _ _) (E3 _ _ _) ?_
   exact VRes.zero (by unfold J4;rw[if_neg (by rw[hv];simp)]) HG
 · obtain⟨i,hi⟩:∃i,pos (ks.map VK.p) o=i:=⟨_,rfl⟩
   have h64:ks.length≤64:=by have:=(EV.1 hv).1;simpa using this
   have hin:i≤ks.length:=by rw[←hi];simpa using N0 (ks.map VK.p) o
   refine AH3 ?_
   refine AK sv8 3 [(10,An sa po (.slice ao ks.length cap)),(11,.bool true),(12,.bool false)]
     ⟨yl r6 (Bm hsa hpo (.slice ao ks.length cap) rfl) AH,Ah [An sa po (.slice ao ks.length cap)] Tryz.func51 (by kernel_rfl) rq4 ⟨(oy rfl rfl),AIA⟩ (Ao fun W g=>JS hsa hpo (hr.kn g) hv),C3 r6 (fun _=>Bf),AIA⟩ fun a16 w16 g16 Ck=>?_
   refine AE ?_
   refine k10 _ _ ?_
   refine Ax Ck rfl rfl ?_
   refine AH8 ?_
   refine k9 _ _ ?_
   refine AH4 fun K17 k17=>?_
   refine AH3 ?_
   replace AH:=AC g16 AH
   replace AN:=AC g16 AN
   replace Al:=AC g16 Al
   replace hr:=hr.kn g16
   refine FV (Ck.st w16) 2 [(14,Sp.is (An sa po (.slice ao ks.length cap))),(15,Sp.cln w16.heap.size sa po ks.length (ks.map VK.p))] rfl (by kernel_rfl) (by kernel_rfl) (by kernel_rfl)
     ⟨yl r6 (Bm hsa hpo (.slice ao ks.length cap) rfl) AH,Ah [An sa po (.slice ao ks.length cap)] Tryz.func72 (by kernel_rfl) rq4 ⟨(oy rfl rfl),AIA⟩ (Yo hsa hpo hr h64),AIA⟩ fun a18 w18 g18 st18=>?_
   obtain⟨hn18,hd18,e18_14,e18_15,e18_10,e18_11,e18_12,e18_9,e18_5,e18_4,e18_3,e18_2,e18_0,e18_1,-⟩:=st18
   obtain⟨A,ms,e18_15q,hmp,ow,kr,frA,frK⟩:=e18_15
   have fr_ow:∀k,BO (.slice ((some ⟨A,0,none⟩)) ks.length ks.length) k→w16.heap.size≤k:=fun k hk=>(Option.some.inj hk)▸frA
   have fr_kr:∀k,DG ms k→w16.heap.size≤k:=fun k hk=>(frK k hk).1
   have ap_kr_ow:∀k,DG ms k→¬BO (.slice ((some ⟨A,0,none⟩)) ks.length ks.length) k:=fun k hk e=>(frK k hk).2 (Option.some.inj e).symm
   have FO:=CY fr_ow AH
   have FP:=CY fr_ow AN
   have Kl:=CY fr_ow Al
   have Ec:=CY fr_kr AH
   have Da:=CY fr_kr AN
   have Km:=CY fr_kr Al
   replace AH:=AC g18 AH
   have CF:Sv 47 [{ target:=.fn (.func 81) #[pt FG,pt Ty],args:=#[] }] [(10,_),(11,_),(12,_),(9,_),(5,_),(4,_),(3,_),(2,_),(0,_),(1,_),(15,_)] a18:=⟨hn18,hd18,e18_10,e18_11,e18_12,e18_9,e18_5,e18_4,e18_3,e18_2,e18_0,e18_1,e18_15q,AIA⟩
   refine Am CF r7 (Bm hsa hpo (.slice ((some ⟨A,0,none⟩)) ks.length ks.length) rfl) AH (by first|rfl|simp[Ac,AI,AU,hsa.1,hpo.1,hsa.1,hpo.1]) fun w19 g19 h19=>?_
   replace AL:=Aa g19 (AC g18 (AC g16 AL)) Il
   replace AN:=Aa g19 (AC g18 AN) A8
   replace Al:=Aa g19 (AC g18 Al) CB
   replace ow:=ow.offR g19 (AQ FO)
   replace kr:=kr.offR g19 (AQ Ec)
   replace HG:=AD (AA (AA HG g16) g18) g19 E5
   replace AH:=h19
   refine AE ?_
   refine k17 _ _ ?_
   refine AH4 fun K20 k20=>?_
   have hml:ks.length=ms.length:=Own.rdk ow
   cases hf:Ix (ks.map VK.p) o
   · refine AH3 ?_
     refine AK CF 6 [(17,An sa po (.slice ((some ⟨A,0,none⟩)) ks.length ks.length)),(18,AP o),(19,.tuple #[.int .i64 ((i:Int)),.bool false]),(16,.tuple #[.int .i64 ((i:Int)),.bool false]),(20,.int .i64 ((i:Int))),(21,.bool false)]
       ⟨yl r6 (Bm hsa hpo (.slice ((some ⟨A,0,none⟩)) ks.length ks.length) rfl) AH,yl r6 (Bj o ho.1) AL,Ah [An sa po (.slice ((some ⟨A,0,none⟩)) ks.length ks.length),AP o] Tryz.func71 (by kernel_rfl) rq4 ⟨(oy rfl rfl),(oy rfl rfl),AIA⟩ (Ao fun W g=>Tx hsa hpo ho hmp (ow.kn g) (kr.1.kn g) hv hf hi),ym r5,BL rq4 (fun _ _ h=>⟨_,_,h,rfl,rfl⟩),BL rq4 (fun _ _ h=>⟨_,_,h,rfl,rfl⟩),AIA⟩ fun a21 w21 g21 DL=>?_
     refine AZ (v:=.int .i64 ((i:Int))) DL r6 fun a22 CU=>?_
     refine AZ (v:=.bool false) CU r6 fun a23 CX=>?_
     have Dw:Sv _ _ [_,_,_,_,_,_,_,_,_,_,_,_,_] _:=CX.dl [17,18,19,16,20,21]
     refine AE ?_
     refine k20 _ _ ?_
     refine AH4 fun K25 k25=>?_
     refine AH4 fun K26 k26=>?_
     refine AH3 ?_
     refine AK Dw 1 [(22,.bool false)]
       ⟨ym r5,AIA⟩ fun a27 w27 g27 F8=>?_
     have Vw:=AA g21 g27
     refine AE ?_
     refine k26 _ _ ?_
     refine Ax F8 rfl rfl ?_
     refine AH8 ?_
     refine k25 _ _ ?_
     refine AH4 fun K28 k28=>?_
     refine AH4 fun K29 k29=>?_
     replace AH:=AC Vw AH
     replace AL:=AC Vw AL
     replace AN:=AC Vw AN
     replace Al:=AC Vw Al
     replace ow:=ow.kn Vw
     replace kr:=kr.kn Vw
     replace HG:=AA HG Vw
     by_cases hfull:64≤ks.length
     · refine AH3 ?_
       refine AK F8 4 [(24,pk CJ 64),(25,.slice ((some ⟨A,0,none⟩)) ks.length ks.length),(26,.int .i64 ((ks.length:Nat))),(27,.bool true)]
        ⟨yf r6 (fun _=>by kernel_rfl),yp (i:=2) r6 (Du (.slice ((some ⟨A,0,none⟩)) ks.length ks.length) rfl) AH rfl (by simp[AI,AU,hsa.1,hpo.1]),Be (Tryz.underlying34) rfl rfl trivial (oy rfl rfl) (fun _=>rfl),Cm r6 (fun _=>EP (decide_eq_true (by omega))),AIA⟩ fun a30 w30 g30 EB=>?_
       refine AE ?_
       refine k29 _ _ ?_
       refine Aq EB rfl rfl ?_
       refine AH4 fun K31 k31=>?_
       refine AH3 ?_
       replace AH:=AC g30 AH
       replace AL:=AC g30 AL
       replace AN:=AC g30 AN
       replace Al:=AC g30 Al
       refine AK EB 1 [(28,An AS AS (.slice none 0 0))]
        ⟨BM (vs:=[]) rfl rfl trivial trivial (fun _=>bV0 _) (fun _=>rfl),AIA⟩ fun a32 w32 g32 CO=>?_
       refine Am CO r7 (Bm AV AV (.slice none 0 0) rfl) (AC g32 AN) (by first|rfl|simp[Ac,AI,AU,AV.1,AV.1]) fun w33 g33 h33=>?_
       replace Al:=Ak g32 g33 Al Ay
       refine Am CO r7 (Ep 8) Al rfl fun w34 g34 h34=>?_
       replace AH:=Aa g34 (Ak g32 g33 AH (Ne.symm A8)) (Ne.symm CB)
       replace AL:=Aa g34 (Ak g32 g33 AL (Ne.symm BJ)) (Ne.symm CT)
       replace AN:=Aa g34 h33 (Ne.symm Ay)
       replace ow:=(((ow.kn g30).kn g32).offR g33 (AQ FP)).offR g34 (AQ Kl)
       replace kr:=(((kr.kn g30).kn g32).offR g33 (AQ Da)).offR g34 (AQ Km)
       replace HG:=AD (AD (AA (AA HG g30) g32) g33 B7) g34 EJ
       replace Al:=h34
       refine AE ?_
       refine k31 _ _ ?_
       refine AH7 ?_
       repeat refine AM ?_
       refine BI (fn:=Tryz.f36) CO (Bc (p:=4) (q:=5) Tryz.results36 CO rfl rfl rfl rfl (Bm AV AV (.slice none 0 0) rfl) (Ep 8) AN Al) (Bh Tryz.func81 (by kernel_rfl) rfl _ _) (E3 _ _ _) ?_
       exact VRes.zero (by unfold J4;rw[if_pos hv,if_neg (by rw[hf];simp),if_pos (by simpa using hfull)]) HG
     · refine AH3 ?_
       refine AK F8 4 [(24,pk CJ 64),(25,.slice ((some ⟨A,0,none⟩)) ks.length ks.length),(26,.int .i64 ((ks.length:Nat))),(27,.bool false)]
        ⟨yf r6 (fun _=>by kernel_rfl),yp (i:=2) r6 (Du (.slice ((some ⟨A,0,none⟩)) ks.length ks.length) rfl) AH rfl (by simp[AI,AU,hsa.1,hpo.1]),Be (Tryz.underlying34) rfl rfl trivial (oy rfl rfl) (fun _=>rfl),Cm r6 (fun _=>EP (decide_eq_false (by omega))),AIA⟩ fun a35 w35 g35 MR=>?_
       refine AE ?_
       refine k29 _ _ ?_
       refine Ax MR rfl rfl ?_
       refine AH8 ?_
       refine k28 _ _ ?_
       refine AH4 fun K36 k36=>?_
       replace AH:=AC g35 AH
       replace AL:=AC g35 AL
       replace AN:=AC g35 AN
       replace Al:=AC g35 Al
       replace ow:=ow.kn g35
       replace kr:=kr.kn g35
       replace HG:=AA HG g35
       refine C6 (MR.st w35) (by kernel_rfl) 7 [(29,Sp.is (AP o)),(30,Sp.is (pk CJ 32)),(31,Sp.is (AP po)),(32,Sp.is (AP ((kd 275 po)))),(33,Sp.ct w35.heap.size T),(34,Sp.ck w35.heap.size o T),(8,Sp.new w35.heap.size (([bv AS,[.slice none 0 0]].flatten)) 58)] rfl (by kernel_rfl) (by kernel_rfl) (by kernel_rfl) [] (by kernel_rfl)
        ⟨yl r6 (Bj o ho.1) AL,yf r6 (fun _=>by kernel_rfl),yp (i:=1) r6 (Bj po hpo.1) AH rfl (by simp[AI,AU,hsa.1,hpo.1]),Ah [.int .u64 275,AP po,.slice none 0 0] Tryz.func66 (by kernel_rfl) rq4 ⟨rfl,(oy rfl rfl),rfl,AIA⟩ (Ao fun W g=>LP (n:=275) (by decide) rfl hpo W),Ah [AP ((kd 275 po))] Tryz.func82 (by kernel_rfl) rq4 ⟨(oy rfl rfl),AIA⟩ (ACh (BE _ _) hT),Js rfl rfl trivial rfl (fun W _ av h=>match av,h with|[u,t],⟨h1,h2,_⟩=>AAQ ho h1 h2),OA rfl trivial (Nat.le_refl _) (fun a w=>by kernel_rfl) (fun _ _ h=>h),AIA⟩ trivial
        [8] (by kernel_rfl) ⟨Sp.new_lt,AIA⟩ ⟨.inl rfl,.inl rfl,.inl rfl,.inl rfl,.inl rfl,.inl rfl,.inr ⟨rfl,(([bv AS,[.slice none 0 0]].flatten)).toArray,58,fun a w=>by kernel_rfl⟩,AIA⟩ (by kernel_rfl) fun a37 w37 g37 st37 nd37=>?_
       obtain⟨hn37,hd37,e37_29,e37_30,e37_31,e37_32,e37_33,e37_34,e37_8,e37_24,e37_25,e37_26,e37_27,e37_22,e37_7,e37_6,e37_10,e37_11,e37_12,e37_9,e37_5,e37_4,e37_3,e37_2,e37_0,e37_1,e37_15,-⟩:=st37
       obtain⟨y,e37_34q,hyo,hyl,rt,frB⟩:=e37_34
       obtain⟨AF3,e37_8q,GV,OL⟩:=e37_8
       have Pg:=KF AH GV
       have Ph:=KF AL GV
       have Pi:=KF AN GV
       have Pj:=KF Al GV
       have AAn:=XE HG GV
       have Tz:=N5 (Own.ltS ow) GV
       have T5:=N5 (kr.lt) GV
       have Im:=CY frB AH
       have GY:=CY frB AN
       have Vx:=CY frB Al
       have T6:=rt.2.ap OL (by decide)
       have IW:Sv 47 [{ target:=.fn (.func 81) #[pt FG,pt Ty],args:=#[] }] [(24,_),(25,_),(26,_),(27,_),(22,_),(7,_),(6,_),(10,_),(11,_),(12,_),(9,_),(5,_),(4,_),(3,_),(2,_),(0,_),(1,_),(15,_),(34,_),(8,_)] a37:=⟨hn37,hd37,e37_24,e37_25,e37_26,e37_27,e37_22,e37_7,e37_6,e37_10,e37_11,e37_12,e37_9,e37_5,e37_4,e37_3,e37_2,e37_0,e37_1,e37_15,e37_34q,e37_8q,AIA⟩
       refine Am IW r7 (RQ y) OL (by first|rfl|simp[Ac,AI,AU,y.ho.1]) fun w38 g38 h38=>?_
       replace AH:=Aa g38 (AC g37 AH) (Ne.symm Pg)
       replace AL:=Aa g38 (AC g37 AL) (Ne.symm Ph)
       replace AN:=Aa g38 (AC g37 AN) (Ne.symm Pi)
       replace Al:=Aa g38 (AC g37 Al) (Ne.symm Pj)
       replace HG:=AD (AA HG g37) g38 AAn
       replace OL:=h38
       refine AE ?_
       refine k36 _ _ ?_
       refine AH4 fun K39 k39=>?_
       refine AH3 ?_
       refine FV (IW.st w38) 5 [(35,Sp.is (pk CJ 64)),(36,Sp.is (.slice ((some ⟨A,0,none⟩)) ks.length ks.length)),(37,Sp.is (.int .i64 ((i:Int)))),(38,Sp.is (Ft y)),(39,Sp.lit1 w38.heap.size 58 (Ac y))] rfl (by kernel_rfl) (by kernel_rfl) (by kernel_rfl)
        ⟨yf r6 (fun _=>by kernel_rfl),yp (i:=2) r6 (Du (.slice ((some ⟨A,0,none⟩)) ks.length ks.length) rfl) AH rfl (by simp[AI,AU,hsa.1,hpo.1]),ym r5,yl r6 (RQ y) OL,NW rfl rfl trivial (Nat.le_refl _) rfl (fun W hw v h=>match v,h with|_,⟨rfl,_⟩=>⟨Ac y,AFy y W,fun w' _ hh=>⟨_,rfl,hw.size,hh⟩⟩),AIA⟩ fun a40 w40 g40 st40=>?_
       obtain⟨hn40,hd40,e40_35,e40_36,e40_37,e40_38,e40_39,e40_24,e40_25,e40_26,e40_27,e40_22,e40_7,e40_6,e40_10,e40_11,e40_12,e40_9,e40_5,e40_4,e40_3,e40_2,e40_0,e40_1,e40_15,e40_34,e40_8,-⟩:=st40
       obtain⟨V,e40_39q,geV,HV⟩:=e40_39
       have MW:V≠CJ:=Nat.ne_of_gt (Nat.lt_of_lt_of_le (Array.getElem?_eq_some_iff.1 AH).1 geV)
       have Yp:V≠Bw:=Nat.ne_of_gt (Nat.lt_of_lt_of_le (Array.getElem?_eq_some_iff.1 AL).1 geV)
       have Qn:V≠FG:=Nat.ne_of_gt (Nat.lt_of_lt_of_le (Array.getElem?_eq_some_iff.1 AN).1 geV)
       have Yq:V≠Ty:=Nat.ne_of_gt (Nat.lt_of_lt_of_le (Array.getElem?_eq_some_iff.1 Al).1 geV)
       have AEz:V≠AF3:=Nat.ne_of_gt (Nat.lt_of_lt_of_le (Array.getElem?_eq_some_iff.1 OL).1 geV)
       have lo_V:w.heap.size≤V:=Nat.le_trans HG.size geV
       replace AH:=AC g40 AH
       replace AN:=AC g40 AN
       replace Al:=AC g40 Al
       replace ow:=((ow.kn g37).offR g38 (AQ Tz)).kn g40
       have Kk:Sv 47 [{ target:=.fn (.func 81) #[pt FG,pt Ty],args:=#[] }] [(24,_),(25,_),(26,_),(27,_),(22,_),(7,_),(6,_),(10,_),(11,_),(12,_),(9,_),(5,_),(4,_),(3,_),(2,_),(0,_),(1,_),(15,_),(34,_),(8,_),(36,_),(37,_),(39,_)] a40:=⟨hn40,hd40,e40_24,e40_25,e40_26,e40_27,e40_22,e40_7,e40_6,e40_10,e40_11,e40_12,e40_9,e40_5,e40_4,e40_3,e40_2,e40_0,e40_1,e40_15,e40_34,e40_8,e40_36,e40_37,e40_39q,AIA⟩
       refine FV (Kk.st w40) 2 [(40,Sp.insr w40.heap.size (ks.length+1) (ms.take i++y::ms.drop i)),(41,Sp.is (pk CJ 64))] rfl (by kernel_rfl) (by kernel_rfl) (by kernel_rfl)
        ⟨Ah [.slice ((some ⟨A,0,none⟩)) ks.length ks.length,.int .i64 ((i:Int)),.slice ((some ⟨V,0,none⟩)) 1 1] Tryz.func83 (by kernel_rfl) rq4 ⟨(oy rfl rfl),(oy rfl rfl),(oy rfl rfl),AIA⟩ (AEy hml ow HV hin h64),yf r6 (fun _=>by kernel_rfl),AIA⟩ fun a41 w41 g41 st41=>?_
       obtain⟨hn41,hd41,e41_40,e41_41,e41_24,e41_25,e41_26,e41_27,e41_22,e41_7,e41_6,e41_10,e41_11,e41_12,e41_9,e41_5,e41_4,e41_3,e41_2,e41_0,e41_1,e41_15,e41_34,e41_8,e41_36,e41_37,e41_39,-⟩:=st41
       obtain⟨ai,ci,e41_40q,oi,fri⟩:=e41_40
       have OM:=CY fri AH
       have Vy:=CY fri AN
       have Vz:=CY fri Al
       replace AH:=AC g41 AH
       have MS:Sv 47 [{ target:=.fn (.func 81) #[pt FG,pt Ty],args:=#[] }] [(24,_),(25,_),(26,_),(27,_),(22,_),(7,_),(6,_),(10,_),(11,_),(12,_),(9,_),(5,_),(4,_),(3,_),(2,_),(0,_),(1,_),(15,_),(34,_),(8,_),(36,_),(37,_),(39,_),(40,_),(41,_)] a41:=⟨hn41,hd41,e41_24,e41_25,e41_26,e41_27,e41_22,e41_7,e41_6,e41_10,e41_11,e41_12,e41_9,e41_5,e41_4,e41_3,e41_2,e41_0,e41_1,e41_15,e41_34,e41_8,e41_36,e41_37,e41_39,e41_40q,e41_41,AIA⟩
       refine KG (L:=[bv sa,bv po,[.slice ((some ⟨A,0,none⟩)) ks.length ks.length]]) (i:=2) MS r7 (Du (.slice ai (ks.length+1) ci) rfl) AH rfl (by simp[AI,AU,hsa.1,hpo.1]) rfl fun w42 g42 h42=>?_
       replace AL:=Aa g42 (AC g41 (AC g40 AL)) Il
       replace AN:=Aa g42 (AC g41 AN) A8
       replace Al:=Aa g42 (AC g41 Al) CB
       replace HV:=Aa g42 (AC g41 HV) MW
       replace AH:=h42
       have IX:Sv _ _ [_,_,_,_,_,_,_,_,_,_,_,_,_,_,_,_,_,_,_] _:=MS.dl [6,36,37,39,40,41]
       refine AE ?_
       refine k39 _ _ ?_
       refine AH4 fun K44 k44=>?_
       refine AH3 ?_
       refine AK IX 4 [(42,pk CJ 32),(43,AP po),(44,AP ((kd 276 po))),(45,pk CJ 32)]
        ⟨yf r6 (fun _=>by kernel_rfl),yp (i:=1) r6 (Bj po hpo.1) AH rfl (by simp[AI,AU,hsa.1,hpo.1]),Ah [.int .u64 276,AP po,.slice none 0 0] Tryz.func66 (by kernel_rfl) rq4 ⟨rfl,(oy rfl rfl),rfl,AIA⟩ (Ao fun W g=>LP (n:=276) (by decide) rfl hpo W),yf r6 (fun _=>by kernel_rfl),AIA⟩ fun a45 w45 g45 EQ=>?_
       refine KG (L:=[bv sa,bv po,[.slice ai (ks.length+1) ci]]) (i:=1) EQ r7 (Bj ((kd 276 po)) (BE _ _).1) (AC g45 AH) rfl (by simp[AI,AU,hsa.1,hpo.1]) (XH hpo (BE _ _)) fun w46 g46 h46=>?_
       replace AN:=Ak g45 g46 AN A8
       replace AH:=h46
       have LS:Sv _ _ [_,_,_,_,_,_,_,_,_,_,_,_,_,_,_,_,_,_,_] _:=EQ.dl [42,43,44,45]
       refine AE ?_
       refine k44 _ _ ?_
       refine AH4 fun K48 k48=>?_
       refine AH3 ?_
       refine AK LS 1 [(46,An sa ((kd 276 po)) (.slice ai (ks.length+1) ci))]
        ⟨yl r6 (Bm hsa (BE _ _) (.slice ai (ks.length+1) ci) rfl) AH,AIA⟩ fun a49 w49 g49 J8=>?_
       refine Am J8 r7 (Bm hsa (BE _ _) (.slice ai (ks.length+1) ci) rfl) (AC g49 AN) (by first|rfl|simp[Ac,AI,AU,hsa.1,(BE _ _).1]) fun w50 g50 h50=>?_
       replace Al:=Ak g49 g50 (Ak g45 g46 Al CB) Ay
       refine Am J8 r7 (Ep 0) Al rfl fun w51 g51 h51=>?_
       replace AH:=Aa g51 (Ak g49 g50 AH (Ne.symm A8)) (Ne.symm CB)
       replace AL:=Aa g51 (Ak g49 g50 (Ak g45 g46 AL Il) (Ne.symm BJ)) (Ne.symm CT)
       replace AN:=Aa g51 h50 (Ne.symm Ay)
       replace HV:=Aa g51 (Ak g49 g50 (Ak g45 g46 HV MW) Qn) Yq
       replace ow:=((((((ow.kn g41).offR g42 (AQ FO)).kn g45).offR g46 (AQ FO)).kn g49).offR g50 (AQ FP)).offR g51 (AQ Kl)
       replace kr:=(((((((((kr.kn g37).offR g38 (AQ T5)).kn g40).kn g41).offR g42 (AQ Ec)).kn g45).offR g46 (AQ Ec)).kn g49).offR g50 (AQ Da)).offR g51 (AQ Km)
       replace rt:=((((((((rt.offR g38 (AQ T6)).kn g40).kn g41).offR g42 (AQ Im)).kn g45).offR g46 (AQ Im)).kn g49).offR g50 (AQ GY)).offR g51 (AQ Vx)
       replace oi:=(((((oi.offR g42 (AQ OM)).kn g45).offR g46 (AQ OM)).kn g49).offR g50 (AQ Vy)).offR g51 (AQ Vz)
       replace HG:=AD (AD (AA (AD (AA (AD (AA (AA HG g40) g41) g42 E5) g45) g46 E5) g49) g50 B7) g51 EJ
       replace Al:=h51
       refine AE ?_
       refine k48 _ _ ?_
       refine AH7 ?_
       repeat refine AM ?_
       refine BI (fn:=Tryz.f36) J8 (Bc (p:=4) (q:=5) Tryz.results36 J8 rfl rfl rfl rfl (Bm hsa (BE _ _) (.slice ai (ks.length+1) ci) rfl) (Ep 0) AN Al) (Bh Tryz.func81 (by kernel_rfl) rfl _ _) (E3 _ _ _) ?_
       exact VRes.mk (P:=KU (ks.map VK.p) o T) (by unfold J4;rw[if_pos hv,if_neg (by rw[hf];simp),if_neg (by simpa using hfull)]) (ACu hmp hi hyo hyl) oi (KsT.ins kr rt i) HG
   · refine AH3 ?_
     refine AK CF 6 [(17,An sa po (.slice ((some ⟨A,0,none⟩)) ks.length ks.length)),(18,AP o),(19,.tuple #[.int .i64 ((i:Int)),.bool true]),(16,.tuple #[.int .i64 ((i:Int)),.bool true]),(20,.int .i64 ((i:Int))),(21,.bool true)]
       ⟨yl r6 (Bm hsa hpo (.slice ((some ⟨A,0,none⟩)) ks.length ks.length) rfl) AH,yl r6 (Bj o ho.1) AL,Ah [An sa po (.slice ((some ⟨A,0,none⟩)) ks.length ks.length),AP o] Tryz.func71 (by kernel_rfl) rq4 ⟨(oy rfl rfl),(oy rfl rfl),AIA⟩ (Ao fun W g=>Tx hsa hpo ho hmp (ow.kn g) (kr.1.kn g) hv hf hi),ym r5,BL rq4 (fun _ _ h=>⟨_,_,h,rfl,rfl⟩),BL rq4 (fun _ _ h=>⟨_,_,h,rfl,rfl⟩),AIA⟩ fun a52 w52 g52 Rc=>?_
     refine AZ (v:=.int .i64 ((i:Int))) Rc r6 fun a53 Yr=>?_
     refine AZ (v:=.bool true) Yr r6 fun a54 Pk=>?_
     have AHA:Sv _ _ [_,_,_,_,_,_,_,_,_,_,_,_,_] _:=Pk.dl [17,18,19,16,20,21]
     refine AE ?_
     refine k20 _ _ ?_
     refine AH4 fun K56 k56=>?_
     refine AH4 fun K57 k57=>?_
     refine AH3 ?_
     refine AK AHA 1 [(22,.bool true)]
       ⟨ym r5,AIA⟩ fun a58 w58 g58 WA=>?_
     have AF4:=AA g52 g58
     refine AE ?_
     refine k57 _ _ ?_
     refine Aq WA rfl rfl ?_
     refine AH4 fun K59 k59=>?_
     refine AH3 ?_
     refine AK WA 1 [(23,An sa po (.slice ((some ⟨A,0,none⟩)) ks.length ks.length))]
       ⟨yl r6 (Bm hsa hpo (.slice ((some ⟨A,0,none⟩)) ks.length ks.length) rfl) (AC AF4 AH),AIA⟩ fun a60 w60 g60 ACv=>?_
     have AAo:=AA AF4 g60
     refine Am ACv r7 (Bm hsa hpo (.slice ((some ⟨A,0,none⟩)) ks.length ks.length) rfl) (AC AAo AN) (by first|rfl|simp[Ac,AI,AU,hsa.1,hpo.1]) fun w61 g61 h61=>?_
     replace Al:=Ak AAo g61 Al Ay
     refine Am ACv r7 (Ep 0) Al rfl fun w62 g62 h62=>?_
     replace AN:=Aa g62 h61 (Ne.symm Ay)
     replace ow:=((ow.kn AAo).offR g61 (AQ FP)).offR g62 (AQ Kl)
     replace kr:=((kr.kn AAo).offR g61 (AQ Da)).offR g62 (AQ Km)
     replace HG:=AD (AD (AA HG AAo) g61 B7) g62 EJ
     replace Al:=h62
     refine AE ?_
     refine k59 _ _ ?_
     refine AH7 ?_
     repeat refine AM ?_
     refine BI (fn:=Tryz.f36) ACv (Bc (p:=4) (q:=5) Tryz.results36 ACv rfl rfl rfl rfl (Bm hsa hpo (.slice ((some ⟨A,0,none⟩)) ks.length ks.length) rfl) (Ep 0) AN Al) (Bh Tryz.func81 (by kernel_rfl) rfl _ _) (E3 _ _ _) ?_
     exact VRes.mk (P:=ks.map VK.p) (by unfold J4;rw[if_pos hv,if_pos hf]) hmp ow kr HG
end Go.Proofs.YtbfjfnbcmojpiaaGreat
