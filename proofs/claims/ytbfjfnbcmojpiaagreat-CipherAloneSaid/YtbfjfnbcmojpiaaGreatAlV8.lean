import Derived.Test.YtbfjfnbcmojpiaaGreatAlSH
set_option linter.unusedSimpArgs false
set_option linter.unusedVariables false
set_option maxRecDepth 100000
set_option maxHeartbeats 4000000
namespace Go.Proofs.YtbfjfnbcmojpiaaGreat
open Go.RowKit Go.Shelf
theorem AAC (l:List Nd):(Ay l).all Value.oneCell'=true:=Ox l
theorem AAD {w:World} {ao:Option Addr} {n cap j:Nat} {ks:List VK} {x:VK} (h:Sl w 33 (.slice ao n cap) n (ks.flatMap Af)) (hj:j<ks.length) (hx:ks[j]=x):w.rangeAt (bO ao) (oO ao+j*33) (Af x):=hx▸DU h C3 hj (by decide)
theorem Lp {w:World} {ao:Option Addr} {n cap j:Nat} {ks:List VK} {x:VK} (h:Sl w 33 (.slice ao n cap) n (ks.flatMap Af)) (hj:j<ks.length) (hx:ks[j]=x):w.rangeAt (bO ao) (oO ao+j*33) (bv x.o):=
 N5 (o:=oO ao+j*33) (k:=0) (A:=[]) (B:=bv x.o) (C:=[x.s]) (AAD h hj hx) rfl
theorem ACl  (w:World) :
  Calls Tryz.prog 114 #[.slice none 0 0] w fun e w'=>e=.returned (.slice none 0 0)∧w.grownBy w' none:=by
 refine BZ Tryz.func114 rfl Tryz.ntmps114 rfl fun a0 sv0=>?_
 have HG:=World.grownBy.refl w none
 replace sv0:Sv 8 [] [(0,.slice none 0 0)] a0:=sv0
 refine ALz fun K1 k1=>?_
 refine ALy ?_
 refine AY (v:=.slice none 0 0) sv0 r6 fun a2 sv2=>?_
 refine AE ?_
 refine k1 _ _ ?_
 refine ALz fun K3 k3=>?_
 refine ALz fun K4 k4=>?_
 refine ALy ?_
 refine AJ sv2 2 [(3,.slice none 0 0),(4,.bool true)]
  ⟨ym r5,Cz r6 (fun _=>U8 Tryz.underlying54 rfl),AL5⟩ fun a5 w5 g5 sv5=>?_
 refine AE ?_
 refine k4 _ _ ?_
 refine Aw sv5 rfl rfl ?_
 refine ALz fun K6 k6=>?_
 refine ALy ?_
 refine AY (v:=.slice none 0 0) sv5 r6 fun a7 sv7=>?_
 refine AE ?_
 refine k6 _ _ ?_
 replace HG:=AA HG g5
 refine AL2 ?_
 repeat refine AL ?_
 refine BI (fn:=Tryz.f114) sv7 (BC (p:=2) Tryz.results114 sv7 rfl rfl) ?_
 exact⟨rfl,HG⟩
theorem AAE (l:List Nd) (ad:Addr) (cap:Nat) (w:World) (h:RdT w (.slice ((some ad)) l.length cap) l) :
  Calls Tryz.prog 114 #[.slice ((some ad)) l.length cap] w fun e w'=>∃ao cap,e=.returned (.slice ao l.length cap)∧RdTg w' (.slice ao l.length cap) l∧(∀k,Mx (.slice ao l.length cap) k→w.heap.size≤k)∧w.grownBy w' none:=by
 refine BZ Tryz.func114 rfl Tryz.ntmps114 rfl fun a0 sv0=>?_
 have HG:=World.grownBy.refl w none
 replace sv0:Sv 8 [] [(0,.slice ((some ad)) l.length cap)] a0:=sv0
 refine ALz fun K1 k1=>?_
 refine ALy ?_
 refine AY (v:=.slice none 0 0) sv0 r6 fun a2 sv2=>?_
 refine AE ?_
 refine k1 _ _ ?_
 refine ALz fun K3 k3=>?_
 refine ALz fun K4 k4=>?_
 refine ALy ?_
 refine AJ sv2 2 [(3,.slice ((some ad)) l.length cap),(4,.bool false)]
  ⟨ym r5,Cz r6 (fun _=>U8 Tryz.underlying54 rfl),AL5⟩ fun a5 w5 g5 sv5=>?_
 refine AE ?_
 refine k4 _ _ ?_
 refine A1 sv5 rfl rfl ?_
 refine AL3 ?_
 refine k3 _ _ ?_
 refine ALz fun K6 k6=>?_
 refine ALy ?_
 replace h:=h.kn g5
 replace HG:=AA HG g5
 refine FH (sv5.st w5) 3 [(5,Sp.lit0 w5.heap.size 132),(6,Sp.is (.slice ((some ad)) l.length cap)),(7,Sp.row w5.heap.size 132 34 l.length (Ay l))] rfl (by kernel_rfl) (by kernel_rfl) (by kernel_rfl)
  ⟨VF (t:=0) rfl trivial (Nat.le_refl _) (fun a w=>by kernel_rfl) (fun _ _ h=>h),ym r5,VG (news:=Ay l) Nz rfl rfl trivial rfl (fun _ _ h=>h) (oy rfl rfl) (fun _ g=>(h.kn g).1) (AAC l) h.2.2.2 (Nat.le_refl _) (fun _ _ h=>h),AL5⟩ fun a7 w7 g7 st7=>?_
 obtain⟨hn7,hd7,e7_5,e7_6,e7_7,e7_3,e7_4,e7_2,e7_0,-⟩:=st7
 obtain⟨ao8,cap8,e7_7q,ow8,fr8⟩:=e7_7
 have AAF:=KP HG fr8
 replace h:=h.kn g7
 replace HG:=AA HG g7
 have sv7:Sv 8 [] [(3,_),(4,_),(2,_),(0,_),(7,_)] a7:=⟨hn7,hd7,e7_3,e7_4,e7_2,e7_0,e7_7q,AL5⟩
 refine AY (v:=.slice ao8 l.length cap8) sv7 r6 fun a9 sv9=>?_
 refine AE ?_
 refine k6 _ _ ?_
 refine AL2 ?_
 repeat refine AL ?_
 refine BI (fn:=Tryz.f114) sv9 (BC (p:=2) Tryz.results114 sv9 rfl rfl) ?_
 exact⟨_,_,rfl,⟨⟨Sl.of_own ow8,h.2.1,fun k hk=>Own.lt ow8 k hk.1,h.2.2.2⟩,Tag.of ow8⟩,fun k hk=>AAF k hk.1,HG⟩
theorem AAG {l:List Nd} {s:Value} {w:World} (h:RdT w s l):Calls Tryz.prog 114 #[s] w fun e w'=>∃ao cap,e=.returned (.slice ao l.length cap)∧RdTg w' (.slice ao l.length cap) l∧(∀k,Mx (.slice ao l.length cap) k→w.heap.size≤k)∧w.grownBy w' none:=by
 obtain⟨ao,cap,rfl⟩:=h.shape
 cases ao with
 | some ad=>exact AAE l ad cap w h
 | none =>
  have h0:l.length=0∧cap=0:=by
   obtain⟨⟨_,ao',cap',e,h1,_,h3,_⟩,_⟩:=h
   simp only[Value.slice.injEq,true_and] at e
   obtain⟨rfl,rfl⟩:=e
   have:=h3 rfl
   omega
  obtain⟨h1,rfl⟩:=h0
  obtain rfl:l=[]:=List.eq_nil_of_length_eq_zero h1
  exact(ACl w).mono fun e w' ⟨h1,h2⟩=>⟨none,0,h1,⟨h.kn h2,fun k hk=>(Ul k hk).elim⟩,fun k hk=>(Ul k hk).elim,h2⟩
theorem AEl {w0:World} {l:List Nd} {s:Value} (h:RdT w0 s l):∀W,w0.grownBy W none→Calls Tryz.prog 114 #[s] W fun e W'=>∃v,e=.returned v∧W.grownBy W' none∧(Sp.cl w0.heap.size l).on W' v:=fun W g =>
 (AAG (h.kn g)).mono fun e W' ⟨ao,cap,h1,h2,h3,h4⟩=>⟨_,h1,h4,ao,cap,rfl,h2,fun k hk=>Nat.le_trans g.size (h3 k hk)⟩
theorem Xv (ks:List VK) (ao:Option Addr) (cap:Nat) (sa po:List Nat) (hsa:Dg sa) (hpo:Dg po) (w:World) (hr:RdK w (.slice ao ks.length cap) ks) (h64:ks.length≤64) :
   Calls Tryz.prog 72 #[Am sa po (.slice ao ks.length cap)] w fun e w'=>∃A ms,e=.returned (Am sa po (.slice (some ⟨A,0,none⟩) ks.length ks.length))∧ms.map VK.p=ks.map VK.p∧Own w' 58 33 (.slice (some ⟨A,0,none⟩) ks.length ks.length) ks.length (ms.flatMap Af)∧KsT w' ms∧w.heap.size≤A∧(∀k,DR ms k→w.heap.size≤k∧k≠A)∧w.grownBy w' none:=by
 refine BZ Tryz.func72 rfl Tryz.ntmps72 rfl fun a0 sv0=>?_
 have HG:=World.grownBy.refl w none
 replace sv0:Sv 33 [] [(0,Am sa po (.slice ao ks.length cap))] a0:=sv0
 refine ALz fun K1 k1=>?_
 refine ALy ?_
 refine Bj sv0 r6 (Bb hsa hpo (.slice ao ks.length cap) rfl) fun a2 w2 CI F8 g2 z2 Aa sv2=>?_
 have AGt:=Bt HG F8
 replace HG:=AA HG g2
 refine Ar (T:=36) (Z:=([bv AR,bv AR,[.slice none 0 0]].flatten)) sv2 rfl rfl rfl (fun a w=>by kernel_rfl) fun a3 w3 OF Iz g3 z3 CO sv3=>?_
 have VT:=An Aa Iz
 have Jw:=Bt HG Iz
 replace Aa:=AC g3 Aa
 replace hr:=(hr.kn g2).kn g3
 replace HG:=AA HG g3
 refine AE ?_
 refine k1 _ _ ?_
 refine ALz fun K4 k4=>?_
 refine ALy ?_
 refine FH (sv3.st w3) 4 [(6,Sp.is (pk CI 64)),(7,Sp.is (.slice ao ks.length cap)),(8,Sp.is (.int .i64 ((ks.length:Nat)))),(9,Sp.made w3.heap.size 58 33 ks.length ((List.replicate ks.length Qs).flatMap Af))] rfl (by kernel_rfl) (by kernel_rfl) (by kernel_rfl)
   ⟨yf r6 (fun _=>by kernel_rfl),yp (i:=2) r6 (EP (.slice ao ks.length cap) rfl) Aa rfl (by simp[AI,AV,hsa.1,hpo.1]),Bv (Tryz.underlying34) rfl rfl trivial (oy rfl rfl) (fun _=>rfl),AGh (m:=ks.length) (xs:=(List.replicate ks.length Qs).flatMap Af) Xs rfl rfl trivial (Nat.le_refl _) (oy rfl rfl) (by omega) (AJ4 _).symm (fun _ _ h=>h),AL5⟩ fun a5 w5 g5 st5=>?_
 obtain⟨hn5,hd5,e5_6,e5_7,e5_8,e5_9,e5_2,e5_1,e5_0,-⟩:=st5
 obtain⟨A,e5_9q,ow,geA⟩:=e5_9
 have frA:∀k,Bk (.slice ((some ⟨A,0,none⟩)) ks.length ks.length) k→w3.heap.size≤k:=fun k hk=>(Option.some.inj hk)▸geA
 have IT:=CJ frA Aa
 have IU:=CJ frA CO
 have ap_hr_ow:=AES (hr.lt) frA
 have lo_ow:=KP HG frA
 replace Aa:=AC g5 Aa
 have sv5:Sv 33 [] [(2,_),(1,_),(0,_),(9,_)] a5:=⟨hn5,hd5,e5_2,e5_1,e5_0,e5_9q,AL5⟩
 refine AY (v:=.slice ((some ⟨A,0,none⟩)) ks.length ks.length) sv5 r6 fun a6 sv6=>?_
 refine AE ?_
 refine k4 _ _ ?_
 refine ALz fun K7 k7=>?_
 refine ALz fun K8 k8=>?_
 refine ALy ?_
 refine AJ sv6 4 [(10,pk CI 64),(11,.slice ao ks.length cap),(12,.int .i64 ((ks.length:Nat))),(13,.int .i64 0)]
   ⟨yf r6 (fun _=>by kernel_rfl),yp (i:=2) r6 (EP (.slice ao ks.length cap) rfl) Aa rfl (by simp[AI,AV,hsa.1,hpo.1]),Bv (Tryz.underlying34) rfl rfl trivial (oy rfl rfl) (fun _=>rfl),E0 (.inl rfl) rfl trivial (fun _=>rfl),AL5⟩ fun a9 w9 g9 sv9=>?_
 refine AE ?_
 refine k8 _ _ ?_
 refine BM fun Q10 x10 y10 r10 o10=>?_
 replace Aa:=AC g9 Aa
 replace CO:=AC g9 (AC g5 CO)
 replace hr:=(hr.kn g5).kn g9
 replace ow:=ow.kn g9
 replace HG:=AA (AA HG g5) g9
 have kr:=KsT.rep w9 ks.length
 have Jz:∀k,DR (List.replicate ks.length Qs) k→k≠CI:=fun k hk=>(LB _ _ hk).elim
 have J0:∀k,DR (List.replicate ks.length Qs) k→k≠OF:=fun k hk=>(LB _ _ hk).elim
 have ap_kr_ow:∀k,DR (List.replicate ks.length Qs) k→¬Bk (.slice ((some ⟨A,0,none⟩)) ks.length ks.length) k:=fun k hk=>(LB _ _ hk).elim
 refine wp_loop (fun a w'=>∃(i:Nat) (ms:List VK),(i≤ks.length)∧(ms.length=ks.length)∧(∀j,j<i→(ms.map VK.p)[j]?=(ks.map VK.p)[j]?)∧(∀k,DR ms k→w.heap.size≤k)∧Sv 33 [] [(13,.int .i64 ((i:Int))),(10,pk CI 64),(11,.slice ao ks.length cap),(12,.int .i64 ((ks.length:Nat))),(3,.slice ((some ⟨A,0,none⟩)) ks.length ks.length),(2,pt OF),(1,pt CI),(0,Am sa po (.slice ao ks.length cap)),(9,.slice ((some ⟨A,0,none⟩)) ks.length ks.length)] a∧w.grownBy w' none∧w'.heap[CI]?=some (.cells ([bv sa,bv po,[.slice ao ks.length cap]].flatten).toArray 36 (0,0))∧w'.heap[OF]?=some (.cells (([bv AR,bv AR,[.slice none 0 0]].flatten)).toArray 36 (0,0))∧RdK w' (.slice ao ks.length cap) ks∧Own w' 58 33 (.slice ((some ⟨A,0,none⟩)) ks.length ks.length) ks.length (ms.flatMap Af)∧KsT w' ms∧(∀k,Bk (.slice ((some ⟨A,0,none⟩)) ks.length ks.length) k→k≠CI)∧(∀k,Bk (.slice ((some ⟨A,0,none⟩)) ks.length ks.length) k→k≠OF)∧(∀k,Mh (.slice ao ks.length cap) ks k→¬Bk (.slice ((some ⟨A,0,none⟩)) ks.length ks.length) k)∧(∀k,DR ms k→¬Bk (.slice ((some ⟨A,0,none⟩)) ks.length ks.length) k)∧(∀k,Bk (.slice ((some ⟨A,0,none⟩)) ks.length ks.length) k→w.heap.size≤k)∧(∀k,DR ms k→k≠CI)∧(∀k,DR ms k→k≠OF)) (fun a _=>(ks.length-intOf (a.tmps.getD 13 undef)).toNat) ⟨0,List.replicate ks.length Qs,Nat.zero_le _,by simp,fun j hj=>by omega,fun k hk=>(LB _ _ hk).elim,⟨sv9.1,sv9.2.1,sv9.2.2.2.2.2.1,sv9.2.2.1,sv9.2.2.2.1,sv9.2.2.2.2.1,sv9.2.2.2.2.2.2.1,sv9.2.2.2.2.2.2.2.1,(AG sv9).1,(AG sv9).2.1,(AG sv9).2.2.1,AL5⟩,HG,Aa,CO,hr,ow,kr,IT,IU,ap_hr_ow,ap_kr_ow,lo_ow,Jz,J0⟩ fun a11 w11 hI11=>?_
 clear Aa
 clear CO
 clear hr
 clear ow
 clear kr
 clear HG
 obtain⟨i,ms,hin,hms,hp,hfr,Cc,HG,Aa,CO,hr,ow,kr,IT,IU,ap_hr_ow,ap_kr_ow,lo_ow,Jz,J0⟩:=hI11
 refine ALz fun K12 k12=>?_
 by_cases hi:i<ks.length
 · obtain⟨x,hx_x⟩:∃x,ks[i]'hi=x:=⟨_,rfl⟩
   have him:i<ms.length:=by omega
   obtain⟨z,hx_z⟩:∃x,ms[i]'him=x:=⟨_,rfl⟩
   refine ALy ?_
   refine AJ Cc 1 [(14,.bool true)]
    ⟨Il r7 (fun _=>Bo (decide_eq_true (by omega))),AL5⟩ fun a13 w13 g13 Dy=>?_
   refine AE ?_
   refine k12 _ _ ?_
   refine ALz fun K14 k14=>?_
   refine Aw Dy rfl rfl ?_
   refine AL3 ?_
   refine k14 _ _ ?_
   refine ALz fun K15 k15=>?_
   refine BM fun Q16 x16 y16 r16 o16=>?_
   refine ALz fun K17 k17=>?_
   refine ALy ?_
   replace hr:=hr.kn g13
   refine AJ Dy 3 [(15,.int .i64 ((i:Int))),(16,pk ((bO ao)) (oO ao+i*33)),(17,Hk x)]
    ⟨ym r5,BA rq8 (fun w=>CU Tryz.underlying34 (by kernel_rfl) (hr.1.1) (by omega) (rfl) w),Bu r6 (fun _ g=>Ab (VJ x) (RdK.keyX (hr.kn g) rfl hi hx_x)),AL5⟩ fun a18 w18 g18 CZ=>?_
   replace Aa:=AC g18 (AC g13 Aa)
   replace CO:=AC g18 (AC g13 CO)
   replace hr:=hr.kn g18
   replace ow:=(ow.kn g13).kn g18
   replace kr:=(kr.kn g13).kn g18
   replace HG:=AA (AA HG g13) g18
   refine Ar (T:=58) (Z:=([bv AR,[.slice none 0 0]].flatten)) CZ rfl rfl rfl (fun a w=>by kernel_rfl) fun a19 w19 ABS JY g19 z19 Qz EQ=>?_
   have TB:=An Aa JY
   have TC:=An CO JY
   have AEm:=Bt HG JY
   have Xw:=Au (hr.lt) JY
   have Xx:=Au (Own.ltS ow) JY
   have PB:=Au (kr.lt) JY
   refine AY (v:=.int .i64 ((i:Int))) EQ r6 fun a20 Eu=>?_
   refine Ao Eu r7 (VJ x) Qz (by first|rfl|simp[Af,AI,AV,x.ho.1]) fun w21 g21 h21=>?_
   replace Aa:=AX g21 (AC g19 Aa) (Ne.symm TB)
   replace CO:=AX g21 (AC g19 CO) (Ne.symm TC)
   replace hr:=(hr.kn g19).offR g21 (AU Xw)
   replace ow:=(ow.kn g19).offR g21 (AU Xx)
   replace HG:=AD (AA HG g19) g21 AEm
   replace Qz:=h21
   refine AE ?_
   refine k17 _ _ ?_
   refine DW (Eu.st w21) (by kernel_rfl) 11 [(18,Sp.is (.slice ((some ⟨A,0,none⟩)) ks.length ks.length)),(19,Sp.is (.int .i64 ((i:Int)))),(20,Sp.is (pt ABS)),(21,Sp.is (AP x.o)),(22,Sp.is (pk ABS 32)),(23,Sp.is (pk ABS 32)),(24,Sp.is (VK.s x)),(25,Sp.cl w21.heap.size x.l),(26,Sp.ct w21.heap.size x.l),(27,Sp.ck w21.heap.size x.o x.l),(28,Sp.is (pk ((bO ((some ⟨A,0,none⟩)))) (oO ((some ⟨A,0,none⟩))+i*33)))] rfl (by kernel_rfl) (by kernel_rfl) (by kernel_rfl) [] (by kernel_rfl)
    ⟨ym r5,ym r5,yf r6 (fun _=>by kernel_rfl),yp (i:=0) r6 (B6 x.o x.ho.1) Qz rfl rfl,yf r6 (fun _=>by kernel_rfl),yf r6 (fun _=>by kernel_rfl),yp (i:=1) r6 (AGI (VK.s x) rfl) Qz rfl (by simp[AI,AV,x.ho.1]),Ae [VK.s x] Tryz.func114 (by kernel_rfl) rq4 ⟨(oy rfl rfl),AL5⟩ (AEl (hr.kt hi hx_x)),Ll rfl rfl trivial rfl (fun W _ av h=>match av,h with|[u],⟨h1,_⟩=>AJ5 h1),Ll rfl rfl trivial rfl (fun W _ av h=>match av,h with|[u,t],⟨h1,h2,_⟩=>AET x.ho h1 h2),BA rq8 (fun w=>CU Tryz.underlying34 (by kernel_rfl) (Sl.of_own ow) (by omega) (rfl) w),AL5⟩ trivial
    [] (by kernel_rfl) trivial ⟨.inl rfl,.inl rfl,.inl rfl,.inl rfl,.inl rfl,.inl rfl,.inl rfl,.inl rfl,.inl rfl,.inl rfl,.inl rfl,AL5⟩ (by kernel_rfl) fun a22 w22 g22 st22 nd22=>?_
   obtain⟨hn22,hd22,e22_18,e22_19,e22_20,e22_21,e22_22,e22_23,e22_24,e22_25,e22_26,e22_27,e22_28,e22_4,e22_5,e22_15,e22_16,e22_17,e22_14,e22_13,e22_10,e22_11,e22_12,e22_3,e22_2,e22_1,e22_0,e22_9,-⟩:=st22
   obtain⟨y,e22_27q,hyo,hyl,rt,frB⟩:=e22_27
   have HG0:=HG
   have AAH:=CJ frB Aa
   have AAI:=CJ frB CO
   have Xy:=CJ frB Qz
   have ap_rt_ow:=ALA (Own.ltS ow) frB
   replace ow:=ow.kn g22
   have Ct:Sv 33 [] [(4,_),(5,_),(15,_),(16,_),(17,_),(14,_),(13,_),(10,_),(11,_),(12,_),(3,_),(2,_),(1,_),(0,_),(9,_),(27,_),(28,_)] a22:=⟨hn22,hd22,e22_4,e22_5,e22_15,e22_16,e22_17,e22_14,e22_13,e22_10,e22_11,e22_12,e22_3,e22_2,e22_1,e22_0,e22_9,e22_27q,e22_28,AL5⟩
   refine Jn (c:=Af) (el:=y) Ct rfl rfl rfl rfl rfl rfl rfl (VJ y) ow C3 (by decide) (by first|omega|(simp only[List.length_set];omega)) rfl fun w23 g23 h23=>?_
   replace Aa:=AF g23 (AC g22 Aa) (fun e=>IT _ (Cp (j:=i) ow (by omega) rfl) (Option.some.inj e).symm)
   replace CO:=AF g23 (AC g22 CO) (fun e=>IU _ (Cp (j:=i) ow (by omega) rfl) (Option.some.inj e).symm)
   replace hr:=(hr.kn g22).offR g23 (fun k hk e=>ap_hr_ow k hk (Cp (j:=i) ow (by omega) e))
   replace kr:=(((kr.kn g19).offR g21 (AU PB)).kn g22).offR g23 (fun k hk e=>ap_kr_ow k hk (Cp (j:=i) ow (by omega) e))
   replace rt:=rt.offR g23 (fun k hk e=>ap_rt_ow k hk (Cp (j:=i) ow (by omega) e))
   replace HG:=Bi (AA HG g22) g23 fun k e=>lo_ow k (Cp (j:=i) ow (by omega) e)
   refine AE ?_
   have kr2:=KsT.set kr (x:=y) rt i
   have Xz:∀k,DR (ms.set i y) k→k≠CI:=fun k hk=>(Ee hk).elim (Jz k) (AAH k)
   have X5:∀k,DR (ms.set i y) k→k≠OF:=fun k hk=>(Ee hk).elim (J0 k) (AAI k)
   have AGu:∀k,DR (ms.set i y) k→k≠ABS:=fun k hk=>(Ee hk).elim (PB k) (Xy k)
   have ap_kr2_ow:∀k,DR (ms.set i y) k→¬Bk (.slice ((some ⟨A,0,none⟩)) ks.length ks.length) k:=fun k hk=>(Ee hk).elim (ap_kr_ow k) (ap_rt_ow k)
   refine y16 _ _ ?_
   refine k15 _ _ ?_
   refine ALy ?_
   refine AJ Ct 1 [(29,.int .i64 (((i+1:Nat):Int)))]
    ⟨Cz r6 (fun _=>Dk (by rw[BG (by omega) (by omega)];omega)),AL5⟩ fun a24 w24 g24 ER=>?_
   refine AJ (ER.dl [13]) 1 [(13,.int .i64 (((i+1:Nat):Int)))]
    ⟨ym r5,AL5⟩ fun a25 w25 g25 DV=>?_
   have Kh:=AA g24 g25
   refine AE ?_
   replace Aa:=AC Kh Aa
   replace CO:=AC Kh CO
   replace hr:=hr.kn Kh
   replace ow:=h23.kn Kh
   replace kr2:=kr2.kn Kh
   replace HG:=AA HG Kh
   exact⟨⟨i+1,ms.set i y,by omega,by rw[List.length_set];exact hms,AGi hms hi hx_x hyo hyl hp,fun k hk=>(Ee hk).elim (hfr k) fun h=>Nat.le_trans HG0.size (frB k h),⟨DV.1,DV.2.1,DV.2.2.1,(AG DV).2.2.1,(AG DV).2.2.2.1,(AG DV).2.2.2.2.1,(AG DV).2.2.2.2.2.1,(AG DV).2.2.2.2.2.2.1,(AG DV).2.2.2.2.2.2.2.1,(AG (AG DV)).1,(AG (AG DV)).2.1,AL5⟩,HG,Aa,CO,hr,ow,kr2,IT,IU,ap_hr_ow,ap_kr2_ow,lo_ow,Xz,X5⟩,by rw[show _=_ from DV.2.2.1,show _=_ from Cc.2.2.1];simp[intOf];omega⟩
 · have hall:=AIs hms hi hp
   refine ALy ?_
   refine AJ Cc 1 [(14,.bool false)]
    ⟨Il r7 (fun _=>Bo (decide_eq_false (by omega))),AL5⟩ fun a26 w26 g26 Cr=>?_
   refine AE ?_
   refine k12 _ _ ?_
   refine ALz fun K27 k27=>?_
   refine A1 Cr rfl rfl ?_
   refine wp_exit ?_
   repeat refine CY ?_
   refine x10 _ _ ?_
   refine k7 _ _ ?_
   refine ALz fun K28 k28=>?_
   refine ALy ?_
   refine AJ Cr 2 [(30,.slice ((some ⟨A,0,none⟩)) ks.length ks.length),(31,pk CI 64)]
    ⟨ym r5,yf r6 (fun _=>by kernel_rfl),AL5⟩ fun a29 w29 g29 Cf=>?_
   have Gh:=AA g26 g29
   refine JT (L:=[bv sa,bv po,[.slice ao ks.length cap]]) (i:=2) Cf r7 (EP (.slice ((some ⟨A,0,none⟩)) ks.length ks.length) rfl) (AC Gh Aa) rfl (by simp[AI,AV,hsa.1,hpo.1]) rfl fun w30 g30 h30=>?_
   replace CO:=Aj Gh g30 CO VT
   replace Aa:=h30
   refine AE ?_
   refine k28 _ _ ?_
   refine ALz fun K31 k31=>?_
   refine ALy ?_
   refine AJ Cf 1 [(32,Am sa po (.slice ((some ⟨A,0,none⟩)) ks.length ks.length))]
    ⟨yl r6 (Bb hsa hpo (.slice ((some ⟨A,0,none⟩)) ks.length ks.length) rfl) Aa,AL5⟩ fun a32 w32 g32 Cl=>?_
   refine Ao Cl r7 (Bb hsa hpo (.slice ((some ⟨A,0,none⟩)) ks.length ks.length) rfl) (AC g32 CO) (by first|rfl|simp[Af,AI,AV,hsa.1,hpo.1]) fun w33 g33 h33=>?_
   replace ow:=(((ow.kn Gh).offR g30 (AU IT)).kn g32).offR g33 (AU IU)
   replace kr:=(((kr.kn Gh).offR g30 (AU Jz)).kn g32).offR g33 (AU J0)
   replace HG:=AD (AA (AD (AA HG Gh) g30 AGt) g32) g33 Jw
   replace CO:=h33
   refine AE ?_
   refine k31 _ _ ?_
   refine AL2 ?_
   repeat refine AL ?_
   refine BI (fn:=Tryz.f72) Cl (E2 (p:=2) Tryz.results72 Cl rfl rfl (Bb hsa hpo (.slice ((some ⟨A,0,none⟩)) ks.length ks.length) rfl) CO) ?_
   exact⟨A,ms,rfl,hall,ow,kr,lo_ow _ rfl,fun k hk=>⟨hfr k hk,fun e=>ap_kr_ow k hk (e▸rfl)⟩,HG⟩
def TagV (w:World) (k:Nat):Prop:=TagB w k∨∃c fr,w.heap[k]?=some (.cells c 58 fr)
theorem TagV.keep {w w':World} {k:Nat} (h:TagV w k) {row:Option Nat} (g:w.grownBy w' row) (hb:row≠some k):TagV w' k:=h.imp (·.keep g hb) fun⟨c,fr,h1⟩=>⟨c,fr,AF g h1 fun e=>hb e.symm⟩
def VRes (w w':World) (r:VV×Int) (fp:Nat→Prop) (e:Ending):Prop:=∃ao cap ks,e=.returned (.tuple #[Am r.1.2.1 r.1.2.2 (.slice ao ks.length cap),.int .i64 r.2])∧ks.map VK.p=r.1.1∧RdK w' (.slice ao ks.length cap) ks∧(∀k,Mh (.slice ao ks.length cap) ks k→fp k∨TagV w' k)∧w.grownBy w' none
theorem VRes.zero {w w':World} {r:VV×Int} {fp:Nat→Prop} {c:Int} (hr:r=(NI,c)) (h:w.grownBy w' none):VRes w w' r fp (.returned (.tuple #[Am AR AR (.slice none 0 0),.int .i64 c])):=by
 subst hr
 exact⟨none,0,[],rfl,rfl,RdK.nil w',fun k hk=>(NE k hk).elim,h⟩
theorem VRes.mk2 {w w':World} {r:VV×Int} {fp:Nat→Prop} {P:List VP} {sa po:List Nat} {c:Int} {ao:Option Addr} {n cap:Nat} {ks:List VK} (hr:r=((P,sa,po),c)) (hp:ks.map VK.p=P) (ho:Own w' 58 33 (.slice ao n cap) n (ks.flatMap Af)) (hk:KsR w' ks) (h2:∀k,DR ks k→fp k∨TagB w' k)
  (h:w.grownBy w' none):VRes w w' r fp (.returned (.tuple #[Am sa po (.slice ao n cap),.int .i64 c])):=by
 obtain rfl:=Own.rdk ho
 subst hr
 exact⟨ao,cap,ks,rfl,hp,⟨ho.sb,hk⟩,fun k hk=>hk.elim (fun h=>.inr (.inr (Own.block ho h))) (fun h=>(h2 k h).imp id .inl),h⟩
theorem VRes.mk {w w':World} {r:VV×Int} {fp:Nat→Prop} {P:List VP} {sa po:List Nat} {c:Int} {ao:Option Addr} {n cap:Nat} {ks:List VK} (hr:r=((P,sa,po),c)) (hp:ks.map VK.p=P) (ho:Own w' 58 33 (.slice ao n cap) n (ks.flatMap Af)) (hk:KsT w' ks)
 (h:w.grownBy w' none):VRes w w' r fp (.returned (.tuple #[Am sa po (.slice ao n cap),.int .i64 c])):=VRes.mk2 hr hp ho hk.1 (fun k hk'=>.inr (hk.2 k hk')) h
theorem VRes.same {w w':World} {r:VV×Int} {fp:Nat→Prop} {P:List VP} {sa po:List Nat} {c:Int} {ao:Option Addr} {cap:Nat} {ks:List VK} (hr:r=((P,sa,po),c)) (hp:ks.map VK.p=P) (ho:RdK w' (.slice ao ks.length cap) ks)
  (h1:∀k,Mh (.slice ao ks.length cap) ks k→fp k) (h:w.grownBy w' none):VRes w w' r fp (.returned (.tuple #[Am sa po (.slice ao ks.length cap),.int .i64 c])):=by
 subst hr
 exact⟨ao,cap,ks,rfl,hp,ho,fun k hk=>.inl (h1 k hk),h⟩
def Sp.cln (B:Nat) (sa po:List Nat) (n:Nat) (P:List VP):Sp:=⟨fun w v=>∃(A:Nat) (ms:List VK),v=Am sa po (.slice (some ⟨A,0,none⟩) n n)∧ms.map VK.p=P∧Own w 58 33 (.slice (some ⟨A,0,none⟩) n n) n (ms.flatMap Af)∧KsT w ms∧B≤A∧∀k,DR ms k→B≤k∧k≠A,
 fun _ _ _ hg ⟨A,ms,h1,h2,h3,h4,h5,h6⟩=>⟨A,ms,h1,h2,h3.kn hg,h4.kn hg,h5,h6⟩⟩
theorem Uf {w0:World} {ks:List VK} {ao:Option Addr} {cap:Nat} {sa po:List Nat} (hsa:Dg sa) (hpo:Dg po) (hr:RdK w0 (.slice ao ks.length cap) ks) (h64:ks.length≤64):∀W,w0.grownBy W none→Calls Tryz.prog 72 #[Am sa po (.slice ao ks.length cap)] W fun e W'=>∃v,e=.returned v∧W.grownBy W' none∧(Sp.cln w0.heap.size sa po ks.length (ks.map VK.p)).on W' v:=fun W g =>
 (Xv ks ao cap sa po hsa hpo W (hr.kn g) h64).mono fun e W' ⟨A,ms,h1,h2,h3,h4,h5,h6,h7⟩=>⟨_,h1,h7,A,ms,rfl,h2,h3,h4,Nat.le_trans g.size h5,fun k hk=>⟨Nat.le_trans g.size (h6 k hk).1,(h6 k hk).2⟩⟩
theorem KsT.ins {w:World} {ms:List VK} (h:KsT w ms) {x:VK} (hx:RdTg w x.s x.l) (i:Nat):KsT w (ms.take i++x::ms.drop i):=by
 have hh:∀k,k∈ms.take i++x::ms.drop i→k∈ms∨k=x:=fun k hk=>by
  rcases List.mem_append.1 hk with hk|hk
  · exact .inl (List.mem_of_mem_take hk)
  · rcases List.mem_cons.1 hk with rfl|hk
    · exact .inr rfl
    · exact .inl (List.mem_of_mem_drop hk)
 exact⟨fun k hk=>(hh k hk).elim (h.1 k) fun e=>e▸hx.1,fun b ⟨k,hk,hb⟩=>(hh k hk).elim (fun h1=>h.2 b ⟨k,h1,hb⟩) fun e=>hx.2 b (e▸hb)⟩
def Sp.insr (B n:Nat) (ks:List VK):Sp:=⟨fun w v=>∃ao cap,v=.slice ao n cap∧Own w 58 33 (.slice ao n cap) n (ks.flatMap Af)∧∀k,Bk (.slice ao n cap) k→B≤k,fun _ _ _ hg ⟨ao,cap,h1,h2,h3⟩=>⟨ao,cap,h1,h2.kn hg,h3⟩⟩
theorem AI0 {w0:World} {ms:List VK} {x:VK} {i A V n:Nat} (hn:n=ms.length) (hown:Own w0 58 33 (.slice (some ⟨A,0,none⟩) n n) n (ms.flatMap Af)) (hv:w0.heap[V]?=some (.cells (Af x).toArray 58 (0,0))) (hi:i≤n) (h64:n≤64) :
  ∀W,w0.grownBy W none→Calls Tryz.prog 83 #[.slice (some ⟨A,0,none⟩) n n,.int .i64 (i:Int),.slice (some ⟨V,0,none⟩) 1 1] W fun e W'=>∃v,e=.returned v∧W.grownBy W' none∧(Sp.insr w0.heap.size (n+1) (ms.take i++x::ms.drop i)).on W' v:=fun W g=>by
 subst hn
 exact(Xt ms x i A V W (hown.kn g) (AF g hv (by simp)) hi (by omega)).mono fun e W' ⟨v,h1,h2,h3,h4⟩=>by
  obtain⟨ao,cap,rfl,_⟩:=(Sl.of_own h2).shape
  exact⟨_,h1,h3,ao,cap,rfl,h2,fun k hk=>Nat.le_trans g.size (h4 k hk)⟩
theorem AGv {ms:List VK} {P:List VP} {o:List Nat} {T:List Nd} {x:VK} {i:Nat} (h:ms.map VK.p=P) (hi:pos P o=i) (ho:x.o=o) (hl:x.l=T):(ms.take i++x::ms.drop i).map VK.p=Mb P o T:=by
 unfold Mb
 rw[hi,List.map_append,List.map_cons,List.map_take,List.map_drop,h]
 simp[VK.p,ho,hl]
theorem X7 {w:World} {ks ms:List VK} {A n:Nat} {sa po o:List Nat} (hsa:Dg sa) (hpo:Dg po) (ho:Dg o) (hm:ms.map VK.p=ks.map VK.p) (ow:Own w 58 33 (.slice (some ⟨A,0,none⟩) n n) n (ms.flatMap Af)) (kr:KsR w ms) (hv:CK (ks.map VK.p)=true) {b:Bool} (hb:Hv (ks.map VK.p) o=b) {i:Nat} (hi:pos (ks.map VK.p) o=i) :
  Calls Tryz.prog 71 #[Am sa po (.slice (some ⟨A,0,none⟩) n n),AP o] w fun e w'=>e=.returned (.tuple #[.int .i64 (i:Int),.bool b])∧w.grownBy w' none:=by
 obtain rfl:=Own.rdk ow
 rw[←hm] at hv hb hi
 exact Qy hsa hpo ho ⟨ow.sb,kr⟩ hv hb hi
theorem AEn (ks:List VK) (ao:Option Addr) (cap:Nat) (sa po:List Nat) (hsa:Dg sa) (hpo:Dg po) (o:List Nat) (ho:Dg o) (T:List Nd) (hT:tree (kd 275 po) []=T) (w:World) (hr:RdK w (.slice ao ks.length cap) ks) :
   Calls Tryz.prog 36 #[Am sa po (.slice ao ks.length cap),AP o] w fun e w'=>VRes w w' (L8 (ks.map VK.p,sa,po) o T (kd 276 po)) (fun _=>False) e:=by
 have hTl:0<T.length:=by rw[←hT,Kv];exact Nat.zero_lt_one
 refine Dm Tryz.func36 rfl Tryz.ntmps36 rfl fun a0 sv0=>?_
 have HG:=World.grownBy.refl w none
 replace sv0:Sv 47 [] [(0,Am sa po (.slice ao ks.length cap)),(1,AP o)] a0:=sv0
 refine ALz fun K1 k1=>?_
 refine ALy ?_
 refine Bj sv0 r6 (Bb hsa hpo (.slice ao ks.length cap) rfl) fun a2 w2 Ci Dh g2 z2 AK sv2=>?_
 have GD:=Bt HG Dh
 refine Bj sv2 r6 (B6 o ho.1) fun a3 w3 CX Fd g3 z3 AN sv3=>?_
 have J1:=An AK Fd
 replace AK:=AC g3 AK
 replace hr:=(hr.kn g2).kn g3
 replace HG:=AA (AA HG g2) g3
 refine Ar (T:=36) (Z:=([bv AR,bv AR,[.slice none 0 0]].flatten)) sv3 rfl rfl rfl (fun a w=>by kernel_rfl) fun a4 w4 GV CM g4 z4 AQ sv4=>?_
 have BO:=An AK CM
 have Bd:=An AN CM
 have CP:=Bt HG CM
 have CB:=Au (hr.lt) CM
 replace AK:=AC g4 AK
 replace AN:=AC g4 AN
 replace hr:=hr.kn g4
 replace HG:=AA HG g4
 refine Ar (T:=38) (Z:=[.int .i64 0]) sv4 rfl rfl rfl (fun a w=>by kernel_rfl) fun a5 w5 X9 Er g5 z5 Av sv5=>?_
 have Ca:=An AK Er
 have Cs:=An AN Er
 have A3:=An AQ Er
 have FJ:=Bt HG Er
 have E6:=Au (hr.lt) Er
 replace AK:=AC g5 AK
 replace AN:=AC g5 AN
 replace AQ:=AC g5 AQ
 replace hr:=hr.kn g5
 replace HG:=AA HG g5
 refine AE ?_
 refine k1 _ _ ?_
 refine ALz fun K6 k6=>?_
 refine ALy ?_
 refine Fl sv5 rfl rfl rfl rfl rfl rfl fun a7 sv7=>?_
 refine Ef sv7 rfl (dd:={ target:=.fn (.func 81) #[pt GV,pt X9],args:=#[] }) rfl (by have e1:=sv7.ev (x:=.tmp 9) rfl rfl;simp[execOp,resolve,Deferred.ofValue,e1];try rfl) fun a8 sv8=>?_
 refine AE ?_
 refine k6 _ _ ?_
 refine ALz fun K9 k9=>?_
 refine ALz fun K10 k10=>?_
 cases hv:CK (ks.map VK.p)
 · refine ALy ?_
   refine AJ sv8 3 [(10,Am sa po (.slice ao ks.length cap)),(11,.bool false),(12,.bool true)]
     ⟨yl r6 (Bb hsa hpo (.slice ao ks.length cap) rfl) AK,Ae [Am sa po (.slice ao ks.length cap)] Tryz.func51 (by kernel_rfl) rq4 ⟨(oy rfl rfl),AL5⟩ (Ap fun W g=>IS hsa hpo (hr.kn g) hv),DG r6 (fun _=>Bf),AL5⟩ fun a11 w11 g11 Cc=>?_
   refine AE ?_
   refine k10 _ _ ?_
   refine Aw Cc rfl rfl ?_
   refine ALz fun K12 k12=>?_
   refine ALy ?_
   replace AK:=AC g11 AK
   replace AN:=AC g11 AN
   replace AQ:=AC g11 AQ
   replace Av:=AC g11 Av
   refine AJ Cc 1 [(13,Am AR AR (.slice none 0 0))]
     ⟨BU (vs:=[]) rfl rfl trivial trivial (fun _=>bV0 _) (fun _=>rfl),AL5⟩ fun a13 w13 g13 Dy=>?_
   refine Ao Dy r7 (Bb AO AO (.slice none 0 0) rfl) (AC g13 AQ) (by first|rfl|simp[Af,AI,AV,AO.1,AO.1]) fun w14 g14 h14=>?_
   replace Av:=Aj g13 g14 Av A3
   refine Ao Dy r7 (EH 1) Av rfl fun w15 g15 h15=>?_
   replace AK:=AX g15 (Aj g13 g14 AK (Ne.symm BO)) (Ne.symm Ca)
   replace AN:=AX g15 (Aj g13 g14 AN (Ne.symm Bd)) (Ne.symm Cs)
   replace AQ:=AX g15 h14 (Ne.symm A3)
   replace hr:=(((hr.kn g11).kn g13).offR g14 (AU CB)).offR g15 (AU E6)
   replace HG:=AD (AD (AA (AA HG g11) g13) g14 CP) g15 FJ
   replace Av:=h15
   refine AE ?_
   refine k12 _ _ ?_
   refine AL2 ?_
   repeat refine AL ?_
   refine BK (fn:=Tryz.f36) Dy (Ba (p:=4) (q:=5) Tryz.results36 Dy rfl rfl rfl rfl (Bb AO AO (.slice none 0 0) rfl) (EH 1) AQ Av) (Bn Tryz.func81 (by kernel_rfl) rfl _ _) (F7 _ _ _) ?_
   exact VRes.zero (by unfold L8;rw[if_neg (by rw[hv];simp)]) HG
 · obtain⟨i,hi⟩:∃i,pos (ks.map VK.p) o=i:=⟨_,rfl⟩
   have h64:ks.length≤64:=by have:=(Eh.1 hv).1;simpa using this
   have hin:i≤ks.length:=by rw[←hi];simpa using Ql (ks.map VK.p) o
   refine ALy ?_
   refine AJ sv8 3 [(10,Am sa po (.slice ao ks.length cap)),(11,.bool true),(12,.bool false)]
     ⟨yl r6 (Bb hsa hpo (.slice ao ks.length cap) rfl) AK,Ae [Am sa po (.slice ao ks.length cap)] Tryz.func51 (by kernel_rfl) rq4 ⟨(oy rfl rfl),AL5⟩ (Ap fun W g=>IS hsa hpo (hr.kn g) hv),DG r6 (fun _=>Bf),AL5⟩ fun a16 w16 g16 DJ=>?_
   refine AE ?_
   refine k10 _ _ ?_
   refine A1 DJ rfl rfl ?_
   refine AL3 ?_
   refine k9 _ _ ?_
   refine ALz fun K17 k17=>?_
   refine ALy ?_
   replace AK:=AC g16 AK
   replace AQ:=AC g16 AQ
   replace Av:=AC g16 Av
   replace hr:=hr.kn g16
   refine FH (DJ.st w16) 2 [(14,Sp.is (Am sa po (.slice ao ks.length cap))),(15,Sp.cln w16.heap.size sa po ks.length (ks.map VK.p))] rfl (by kernel_rfl) (by kernel_rfl) (by kernel_rfl)
     ⟨yl r6 (Bb hsa hpo (.slice ao ks.length cap) rfl) AK,Ae [Am sa po (.slice ao ks.length cap)] Tryz.func72 (by kernel_rfl) rq4 ⟨(oy rfl rfl),AL5⟩ (Uf hsa hpo hr h64),AL5⟩ fun a18 w18 g18 st18=>?_
   obtain⟨hn18,hd18,e18_14,e18_15,e18_10,e18_11,e18_12,e18_9,e18_5,e18_4,e18_3,e18_2,e18_0,e18_1,-⟩:=st18
   obtain⟨A,ms,e18_15q,hmp,ow,kr,frA,frK⟩:=e18_15
   have fr_ow:∀k,Bk (.slice ((some ⟨A,0,none⟩)) ks.length ks.length) k→w16.heap.size≤k:=fun k hk=>(Option.some.inj hk)▸frA
   have fr_kr:∀k,DR ms k→w16.heap.size≤k:=fun k hk=>(frK k hk).1
   have ap_kr_ow:∀k,DR ms k→¬Bk (.slice ((some ⟨A,0,none⟩)) ks.length ks.length) k:=fun k hk e=>(frK k hk).2 (Option.some.inj e).symm
   have Gi:=CJ fr_ow AK
   have Gj:=CJ fr_ow AQ
   have Ml:=CJ fr_ow Av
   have Fg:=CJ fr_kr AK
   have EW:=CJ fr_kr AQ
   have Mm:=CJ fr_kr Av
   replace AK:=AC g18 AK
   have CZ:Sv 47 [{ target:=.fn (.func 81) #[pt GV,pt X9],args:=#[] }] [(10,_),(11,_),(12,_),(9,_),(5,_),(4,_),(3,_),(2,_),(0,_),(1,_),(15,_)] a18:=⟨hn18,hd18,e18_10,e18_11,e18_12,e18_9,e18_5,e18_4,e18_3,e18_2,e18_0,e18_1,e18_15q,AL5⟩
   refine Ao CZ r7 (Bb hsa hpo (.slice ((some ⟨A,0,none⟩)) ks.length ks.length) rfl) AK (by first|rfl|simp[Af,AI,AV,hsa.1,hpo.1,hsa.1,hpo.1]) fun w19 g19 h19=>?_
   replace AN:=AX g19 (AC g18 (AC g16 AN)) J1
   replace AQ:=AX g19 (AC g18 AQ) BO
   replace Av:=AX g19 (AC g18 Av) Ca
   replace ow:=ow.offR g19 (AU Gi)
   replace kr:=kr.offR g19 (AU Fg)
   replace HG:=AD (AA (AA HG g16) g18) g19 GD
   replace AK:=h19
   refine AE ?_
   refine k17 _ _ ?_
   refine ALz fun K20 k20=>?_
   have hml:ks.length=ms.length:=Own.rdk ow
   cases hf:Hv (ks.map VK.p) o
   · refine ALy ?_
     refine AJ CZ 6 [(17,Am sa po (.slice ((some ⟨A,0,none⟩)) ks.length ks.length)),(18,AP o),(19,.tuple #[.int .i64 ((i:Int)),.bool false]),(16,.tuple #[.int .i64 ((i:Int)),.bool false]),(20,.int .i64 ((i:Int))),(21,.bool false)]
       ⟨yl r6 (Bb hsa hpo (.slice ((some ⟨A,0,none⟩)) ks.length ks.length) rfl) AK,yl r6 (B6 o ho.1) AN,Ae [Am sa po (.slice ((some ⟨A,0,none⟩)) ks.length ks.length),AP o] Tryz.func71 (by kernel_rfl) rq4 ⟨(oy rfl rfl),(oy rfl rfl),AL5⟩ (Ap fun W g=>X7 hsa hpo ho hmp (ow.kn g) (kr.1.kn g) hv hf hi),ym r5,BF rq4 (fun _ _ h=>⟨_,_,h,rfl,rfl⟩),BF rq4 (fun _ _ h=>⟨_,_,h,rfl,rfl⟩),AL5⟩ fun a21 w21 g21 Di=>?_
     refine AY (v:=.int .i64 ((i:Int))) Di r6 fun a22 Ct=>?_
     refine AY (v:=.bool false) Ct r6 fun a23 Cw=>?_
     have ER:Sv _ _ [_,_,_,_,_,_,_,_,_,_,_,_,_] _:=Cw.dl [17,18,19,16,20,21]
     refine AE ?_
     refine k20 _ _ ?_
     refine ALz fun K25 k25=>?_
     refine ALz fun K26 k26=>?_
     refine ALy ?_
     refine AJ ER 1 [(22,.bool false)]
       ⟨ym r5,AL5⟩ fun a27 w27 g27 JG=>?_
     have AAJ:=AA g21 g27
     refine AE ?_
     refine k26 _ _ ?_
     refine A1 JG rfl rfl ?_
     refine AL3 ?_
     refine k25 _ _ ?_
     refine ALz fun K28 k28=>?_
     refine ALz fun K29 k29=>?_
     replace AK:=AC AAJ AK
     replace AN:=AC AAJ AN
     replace AQ:=AC AAJ AQ
     replace Av:=AC AAJ Av
     replace ow:=ow.kn AAJ
     replace kr:=kr.kn AAJ
     replace HG:=AA HG AAJ
     by_cases hfull:64≤ks.length
     · refine ALy ?_
       refine AJ JG 4 [(24,pk Ci 64),(25,.slice ((some ⟨A,0,none⟩)) ks.length ks.length),(26,.int .i64 ((ks.length:Nat))),(27,.bool true)]
        ⟨yf r6 (fun _=>by kernel_rfl),yp (i:=2) r6 (EP (.slice ((some ⟨A,0,none⟩)) ks.length ks.length) rfl) AK rfl (by simp[AI,AV,hsa.1,hpo.1]),Bv (Tryz.underlying34) rfl rfl trivial (oy rfl rfl) (fun _=>rfl),Cz r6 (fun _=>FS (decide_eq_true (by omega))),AL5⟩ fun a30 w30 g30 E4=>?_
       refine AE ?_
       refine k29 _ _ ?_
       refine Aw E4 rfl rfl ?_
       refine ALz fun K31 k31=>?_
       refine ALy ?_
       replace AK:=AC g30 AK
       replace AN:=AC g30 AN
       replace AQ:=AC g30 AQ
       replace Av:=AC g30 Av
       refine AJ E4 1 [(28,Am AR AR (.slice none 0 0))]
        ⟨BU (vs:=[]) rfl rfl trivial trivial (fun _=>bV0 _) (fun _=>rfl),AL5⟩ fun a32 w32 g32 Cl=>?_
       refine Ao Cl r7 (Bb AO AO (.slice none 0 0) rfl) (AC g32 AQ) (by first|rfl|simp[Af,AI,AV,AO.1,AO.1]) fun w33 g33 h33=>?_
       replace Av:=Aj g32 g33 Av A3
       refine Ao Cl r7 (EH 8) Av rfl fun w34 g34 h34=>?_
       replace AK:=AX g34 (Aj g32 g33 AK (Ne.symm BO)) (Ne.symm Ca)
       replace AN:=AX g34 (Aj g32 g33 AN (Ne.symm Bd)) (Ne.symm Cs)
       replace AQ:=AX g34 h33 (Ne.symm A3)
       replace ow:=(((ow.kn g30).kn g32).offR g33 (AU Gj)).offR g34 (AU Ml)
       replace kr:=(((kr.kn g30).kn g32).offR g33 (AU EW)).offR g34 (AU Mm)
       replace HG:=AD (AD (AA (AA HG g30) g32) g33 CP) g34 FJ
       replace Av:=h34
       refine AE ?_
       refine k31 _ _ ?_
       refine AL2 ?_
       repeat refine AL ?_
       refine BK (fn:=Tryz.f36) Cl (Ba (p:=4) (q:=5) Tryz.results36 Cl rfl rfl rfl rfl (Bb AO AO (.slice none 0 0) rfl) (EH 8) AQ Av) (Bn Tryz.func81 (by kernel_rfl) rfl _ _) (F7 _ _ _) ?_
       exact VRes.zero (by unfold L8;rw[if_pos hv,if_neg (by rw[hf];simp),if_pos (by simpa using hfull)]) HG
     · refine ALy ?_
       refine AJ JG 4 [(24,pk Ci 64),(25,.slice ((some ⟨A,0,none⟩)) ks.length ks.length),(26,.int .i64 ((ks.length:Nat))),(27,.bool false)]
        ⟨yf r6 (fun _=>by kernel_rfl),yp (i:=2) r6 (EP (.slice ((some ⟨A,0,none⟩)) ks.length ks.length) rfl) AK rfl (by simp[AI,AV,hsa.1,hpo.1]),Bv (Tryz.underlying34) rfl rfl trivial (oy rfl rfl) (fun _=>rfl),Cz r6 (fun _=>FS (decide_eq_false (by omega))),AL5⟩ fun a35 w35 g35 Ki=>?_
       refine AE ?_
       refine k29 _ _ ?_
       refine A1 Ki rfl rfl ?_
       refine AL3 ?_
       refine k28 _ _ ?_
       refine ALz fun K36 k36=>?_
       replace AK:=AC g35 AK
       replace AN:=AC g35 AN
       replace AQ:=AC g35 AQ
       replace Av:=AC g35 Av
       replace ow:=ow.kn g35
       replace kr:=kr.kn g35
       replace HG:=AA HG g35
       refine DW (Ki.st w35) (by kernel_rfl) 7 [(29,Sp.is (AP o)),(30,Sp.is (pk Ci 32)),(31,Sp.is (AP po)),(32,Sp.is (AP ((kd 275 po)))),(33,Sp.ct w35.heap.size T),(34,Sp.ck w35.heap.size o T),(8,Sp.new w35.heap.size (([bv AR,[.slice none 0 0]].flatten)) 58)] rfl (by kernel_rfl) (by kernel_rfl) (by kernel_rfl) [] (by kernel_rfl)
        ⟨yl r6 (B6 o ho.1) AN,yf r6 (fun _=>by kernel_rfl),yp (i:=1) r6 (B6 po hpo.1) AK rfl (by simp[AI,AV,hsa.1,hpo.1]),Ae [.int .u64 275,AP po,.slice none 0 0] Tryz.func66 (by kernel_rfl) rq4 ⟨rfl,(oy rfl rfl),rfl,AL5⟩ (Ap fun W g=>NG (n:=275) (by decide) rfl hpo W),Ae [AP ((kd 275 po))] Tryz.func82 (by kernel_rfl) rq4 ⟨(oy rfl rfl),AL5⟩ (AGj (BR _ _) hT),Ll rfl rfl trivial rfl (fun W _ av h=>match av,h with|[u,t],⟨h1,h2,_⟩=>AET ho h1 h2),LC rfl trivial (Nat.le_refl _) (fun a w=>by kernel_rfl) (fun _ _ h=>h),AL5⟩ trivial
        [8] (by kernel_rfl) ⟨Sp.new_lt,AL5⟩ ⟨.inl rfl,.inl rfl,.inl rfl,.inl rfl,.inl rfl,.inl rfl,.inr ⟨rfl,(([bv AR,[.slice none 0 0]].flatten)).toArray,58,fun a w=>by kernel_rfl⟩,AL5⟩ (by kernel_rfl) fun a37 w37 g37 st37 nd37=>?_
       obtain⟨hn37,hd37,e37_29,e37_30,e37_31,e37_32,e37_33,e37_34,e37_8,e37_24,e37_25,e37_26,e37_27,e37_22,e37_7,e37_6,e37_10,e37_11,e37_12,e37_9,e37_5,e37_4,e37_3,e37_2,e37_0,e37_1,e37_15,-⟩:=st37
       obtain⟨y,e37_34q,hyo,hyl,rt,frB⟩:=e37_34
       obtain⟨AKB,e37_8q,IV,Q2⟩:=e37_8
       have TE:=FX AK IV
       have TF:=FX AN IV
       have TG:=FX AQ IV
       have TH:=FX Av IV
       have AEo:=UX HG IV
       have YL:=Iu (Own.ltS ow) IV
       have YM:=Iu (kr.lt) IV
       have J2:=CJ frB AK
       have IW:=CJ frB AQ
       have AAK:=CJ frB Av
       have YN:=rt.2.ap Q2 (by decide)
       have IR:Sv 47 [{ target:=.fn (.func 81) #[pt GV,pt X9],args:=#[] }] [(24,_),(25,_),(26,_),(27,_),(22,_),(7,_),(6,_),(10,_),(11,_),(12,_),(9,_),(5,_),(4,_),(3,_),(2,_),(0,_),(1,_),(15,_),(34,_),(8,_)] a37:=⟨hn37,hd37,e37_24,e37_25,e37_26,e37_27,e37_22,e37_7,e37_6,e37_10,e37_11,e37_12,e37_9,e37_5,e37_4,e37_3,e37_2,e37_0,e37_1,e37_15,e37_34q,e37_8q,AL5⟩
       refine Ao IR r7 (VJ y) Q2 (by first|rfl|simp[Af,AI,AV,y.ho.1]) fun w38 g38 h38=>?_
       replace AK:=AX g38 (AC g37 AK) (Ne.symm TE)
       replace AN:=AX g38 (AC g37 AN) (Ne.symm TF)
       replace AQ:=AX g38 (AC g37 AQ) (Ne.symm TG)
       replace Av:=AX g38 (AC g37 Av) (Ne.symm TH)
       replace HG:=AD (AA HG g37) g38 AEo
       replace Q2:=h38
       refine AE ?_
       refine k36 _ _ ?_
       refine ALz fun K39 k39=>?_
       refine ALy ?_
       refine FH (IR.st w38) 5 [(35,Sp.is (pk Ci 64)),(36,Sp.is (.slice ((some ⟨A,0,none⟩)) ks.length ks.length)),(37,Sp.is (.int .i64 ((i:Int)))),(38,Sp.is (Hk y)),(39,Sp.lit1 w38.heap.size 58 (Af y))] rfl (by kernel_rfl) (by kernel_rfl) (by kernel_rfl)
        ⟨yf r6 (fun _=>by kernel_rfl),yp (i:=2) r6 (EP (.slice ((some ⟨A,0,none⟩)) ks.length ks.length) rfl) AK rfl (by simp[AI,AV,hsa.1,hpo.1]),ym r5,yl r6 (VJ y) Q2,QC rfl rfl trivial (Nat.le_refl _) rfl (fun W hw v h=>match v,h with|_,⟨rfl,_⟩=>⟨Af y,AJ6 y W,fun w' _ hh=>⟨_,rfl,hw.size,hh⟩⟩),AL5⟩ fun a40 w40 g40 st40=>?_
       obtain⟨hn40,hd40,e40_35,e40_36,e40_37,e40_38,e40_39,e40_24,e40_25,e40_26,e40_27,e40_22,e40_7,e40_6,e40_10,e40_11,e40_12,e40_9,e40_5,e40_4,e40_3,e40_2,e40_0,e40_1,e40_15,e40_34,e40_8,-⟩:=st40
       obtain⟨V,e40_39q,geV,HV⟩:=e40_39
       have OH:V≠Ci:=Nat.ne_of_gt (Nat.lt_of_lt_of_le (Array.getElem?_eq_some_iff.1 AK).1 geV)
       have ACm:V≠CX:=Nat.ne_of_gt (Nat.lt_of_lt_of_le (Array.getElem?_eq_some_iff.1 AN).1 geV)
       have Ug:V≠GV:=Nat.ne_of_gt (Nat.lt_of_lt_of_le (Array.getElem?_eq_some_iff.1 AQ).1 geV)
       have ACn:V≠X9:=Nat.ne_of_gt (Nat.lt_of_lt_of_le (Array.getElem?_eq_some_iff.1 Av).1 geV)
       have AI1:V≠AKB:=Nat.ne_of_gt (Nat.lt_of_lt_of_le (Array.getElem?_eq_some_iff.1 Q2).1 geV)
       have lo_V:w.heap.size≤V:=Nat.le_trans HG.size geV
       replace AK:=AC g40 AK
       replace AQ:=AC g40 AQ
       replace Av:=AC g40 Av
       replace ow:=((ow.kn g37).offR g38 (AU YL)).kn g40
       have Kj:Sv 47 [{ target:=.fn (.func 81) #[pt GV,pt X9],args:=#[] }] [(24,_),(25,_),(26,_),(27,_),(22,_),(7,_),(6,_),(10,_),(11,_),(12,_),(9,_),(5,_),(4,_),(3,_),(2,_),(0,_),(1,_),(15,_),(34,_),(8,_),(36,_),(37,_),(39,_)] a40:=⟨hn40,hd40,e40_24,e40_25,e40_26,e40_27,e40_22,e40_7,e40_6,e40_10,e40_11,e40_12,e40_9,e40_5,e40_4,e40_3,e40_2,e40_0,e40_1,e40_15,e40_34,e40_8,e40_36,e40_37,e40_39q,AL5⟩
       refine FH (Kj.st w40) 2 [(40,Sp.insr w40.heap.size (ks.length+1) (ms.take i++y::ms.drop i)),(41,Sp.is (pk Ci 64))] rfl (by kernel_rfl) (by kernel_rfl) (by kernel_rfl)
        ⟨Ae [.slice ((some ⟨A,0,none⟩)) ks.length ks.length,.int .i64 ((i:Int)),.slice ((some ⟨V,0,none⟩)) 1 1] Tryz.func83 (by kernel_rfl) rq4 ⟨(oy rfl rfl),(oy rfl rfl),(oy rfl rfl),AL5⟩ (AI0 hml ow HV hin h64),yf r6 (fun _=>by kernel_rfl),AL5⟩ fun a41 w41 g41 st41=>?_
       obtain⟨hn41,hd41,e41_40,e41_41,e41_24,e41_25,e41_26,e41_27,e41_22,e41_7,e41_6,e41_10,e41_11,e41_12,e41_9,e41_5,e41_4,e41_3,e41_2,e41_0,e41_1,e41_15,e41_34,e41_8,e41_36,e41_37,e41_39,-⟩:=st41
       obtain⟨ai,ci,e41_40q,oi,fri⟩:=e41_40
       have Q7:=CJ fri AK
       have AAL:=CJ fri AQ
       have AAM:=CJ fri Av
       replace AK:=AC g41 AK
       have OB:Sv 47 [{ target:=.fn (.func 81) #[pt GV,pt X9],args:=#[] }] [(24,_),(25,_),(26,_),(27,_),(22,_),(7,_),(6,_),(10,_),(11,_),(12,_),(9,_),(5,_),(4,_),(3,_),(2,_),(0,_),(1,_),(15,_),(34,_),(8,_),(36,_),(37,_),(39,_),(40,_),(41,_)] a41:=⟨hn41,hd41,e41_24,e41_25,e41_26,e41_27,e41_22,e41_7,e41_6,e41_10,e41_11,e41_12,e41_9,e41_5,e41_4,e41_3,e41_2,e41_0,e41_1,e41_15,e41_34,e41_8,e41_36,e41_37,e41_39,e41_40q,e41_41,AL5⟩
       refine JT (L:=[bv sa,bv po,[.slice ((some ⟨A,0,none⟩)) ks.length ks.length]]) (i:=2) OB r7 (EP (.slice ai (ks.length+1) ci) rfl) AK rfl (by simp[AI,AV,hsa.1,hpo.1]) rfl fun w42 g42 h42=>?_
       replace AN:=AX g42 (AC g41 (AC g40 AN)) J1
       replace AQ:=AX g42 (AC g41 AQ) BO
       replace Av:=AX g42 (AC g41 Av) Ca
       replace HV:=AX g42 (AC g41 HV) OH
       replace AK:=h42
       have Jt:Sv _ _ [_,_,_,_,_,_,_,_,_,_,_,_,_,_,_,_,_,_,_] _:=OB.dl [6,36,37,39,40,41]
       refine AE ?_
       refine k39 _ _ ?_
       refine ALz fun K44 k44=>?_
       refine ALy ?_
       refine AJ Jt 4 [(42,pk Ci 32),(43,AP po),(44,AP ((kd 276 po))),(45,pk Ci 32)]
        ⟨yf r6 (fun _=>by kernel_rfl),yp (i:=1) r6 (B6 po hpo.1) AK rfl (by simp[AI,AV,hsa.1,hpo.1]),Ae [.int .u64 276,AP po,.slice none 0 0] Tryz.func66 (by kernel_rfl) rq4 ⟨rfl,(oy rfl rfl),rfl,AL5⟩ (Ap fun W g=>NG (n:=276) (by decide) rfl hpo W),yf r6 (fun _=>by kernel_rfl),AL5⟩ fun a45 w45 g45 Ev=>?_
       refine JT (L:=[bv sa,bv po,[.slice ai (ks.length+1) ci]]) (i:=1) Ev r7 (B6 ((kd 276 po)) (BR _ _).1) (AC g45 AK) rfl (by simp[AI,AV,hsa.1,hpo.1]) (ABR hpo (BR _ _)) fun w46 g46 h46=>?_
       replace AQ:=Aj g45 g46 AQ BO
       replace AK:=h46
       have LG:Sv _ _ [_,_,_,_,_,_,_,_,_,_,_,_,_,_,_,_,_,_,_] _:=Ev.dl [42,43,44,45]
       refine AE ?_
       refine k44 _ _ ?_
       refine ALz fun K48 k48=>?_
       refine ALy ?_
       refine AJ LG 1 [(46,Am sa ((kd 276 po)) (.slice ai (ks.length+1) ci))]
        ⟨yl r6 (Bb hsa (BR _ _) (.slice ai (ks.length+1) ci) rfl) AK,AL5⟩ fun a49 w49 g49 JH=>?_
       refine Ao JH r7 (Bb hsa (BR _ _) (.slice ai (ks.length+1) ci) rfl) (AC g49 AQ) (by first|rfl|simp[Af,AI,AV,hsa.1,(BR _ _).1]) fun w50 g50 h50=>?_
       replace Av:=Aj g49 g50 (Aj g45 g46 Av Ca) A3
       refine Ao JH r7 (EH 0) Av rfl fun w51 g51 h51=>?_
       replace AK:=AX g51 (Aj g49 g50 AK (Ne.symm BO)) (Ne.symm Ca)
       replace AN:=AX g51 (Aj g49 g50 (Aj g45 g46 AN J1) (Ne.symm Bd)) (Ne.symm Cs)
       replace AQ:=AX g51 h50 (Ne.symm A3)
       replace HV:=AX g51 (Aj g49 g50 (Aj g45 g46 HV OH) Ug) ACn
       replace ow:=((((((ow.kn g41).offR g42 (AU Gi)).kn g45).offR g46 (AU Gi)).kn g49).offR g50 (AU Gj)).offR g51 (AU Ml)
       replace kr:=(((((((((kr.kn g37).offR g38 (AU YM)).kn g40).kn g41).offR g42 (AU Fg)).kn g45).offR g46 (AU Fg)).kn g49).offR g50 (AU EW)).offR g51 (AU Mm)
       replace rt:=((((((((rt.offR g38 (AU YN)).kn g40).kn g41).offR g42 (AU J2)).kn g45).offR g46 (AU J2)).kn g49).offR g50 (AU IW)).offR g51 (AU AAK)
       replace oi:=(((((oi.offR g42 (AU Q7)).kn g45).offR g46 (AU Q7)).kn g49).offR g50 (AU AAL)).offR g51 (AU AAM)
       replace HG:=AD (AD (AA (AD (AA (AD (AA (AA HG g40) g41) g42 GD) g45) g46 GD) g49) g50 CP) g51 FJ
       replace Av:=h51
       refine AE ?_
       refine k48 _ _ ?_
       refine AL2 ?_
       repeat refine AL ?_
       refine BK (fn:=Tryz.f36) JH (Ba (p:=4) (q:=5) Tryz.results36 JH rfl rfl rfl rfl (Bb hsa (BR _ _) (.slice ai (ks.length+1) ci) rfl) (EH 0) AQ Av) (Bn Tryz.func81 (by kernel_rfl) rfl _ _) (F7 _ _ _) ?_
       exact VRes.mk (P:=Mb (ks.map VK.p) o T) (by unfold L8;rw[if_pos hv,if_neg (by rw[hf];simp),if_neg (by simpa using hfull)]) (AGv hmp hi hyo hyl) oi (KsT.ins kr rt i) HG
   · refine ALy ?_
     refine AJ CZ 6 [(17,Am sa po (.slice ((some ⟨A,0,none⟩)) ks.length ks.length)),(18,AP o),(19,.tuple #[.int .i64 ((i:Int)),.bool true]),(16,.tuple #[.int .i64 ((i:Int)),.bool true]),(20,.int .i64 ((i:Int))),(21,.bool true)]
       ⟨yl r6 (Bb hsa hpo (.slice ((some ⟨A,0,none⟩)) ks.length ks.length) rfl) AK,yl r6 (B6 o ho.1) AN,Ae [Am sa po (.slice ((some ⟨A,0,none⟩)) ks.length ks.length),AP o] Tryz.func71 (by kernel_rfl) rq4 ⟨(oy rfl rfl),(oy rfl rfl),AL5⟩ (Ap fun W g=>X7 hsa hpo ho hmp (ow.kn g) (kr.1.kn g) hv hf hi),ym r5,BF rq4 (fun _ _ h=>⟨_,_,h,rfl,rfl⟩),BF rq4 (fun _ _ h=>⟨_,_,h,rfl,rfl⟩),AL5⟩ fun a52 w52 g52 RA=>?_
     refine AY (v:=.int .i64 ((i:Int))) RA r6 fun a53 YO=>?_
     refine AY (v:=.bool true) YO r6 fun a54 MC=>?_
     have ALF:Sv _ _ [_,_,_,_,_,_,_,_,_,_,_,_,_] _:=MC.dl [17,18,19,16,20,21]
     refine AE ?_
     refine k20 _ _ ?_
     refine ALz fun K56 k56=>?_
     refine ALz fun K57 k57=>?_
     refine ALy ?_
     refine AJ ALF 1 [(22,.bool true)]
       ⟨ym r5,AL5⟩ fun a58 w58 g58 Mn=>?_
     have AKC:=AA g52 g58
     refine AE ?_
     refine k57 _ _ ?_
     refine Aw Mn rfl rfl ?_
     refine ALz fun K59 k59=>?_
     refine ALy ?_
     refine AJ Mn 1 [(23,Am sa po (.slice ((some ⟨A,0,none⟩)) ks.length ks.length))]
       ⟨yl r6 (Bb hsa hpo (.slice ((some ⟨A,0,none⟩)) ks.length ks.length) rfl) (AC AKC AK),AL5⟩ fun a60 w60 g60 AGw=>?_
     have AEp:=AA AKC g60
     refine Ao AGw r7 (Bb hsa hpo (.slice ((some ⟨A,0,none⟩)) ks.length ks.length) rfl) (AC AEp AQ) (by first|rfl|simp[Af,AI,AV,hsa.1,hpo.1]) fun w61 g61 h61=>?_
     replace Av:=Aj AEp g61 Av A3
     refine Ao AGw r7 (EH 0) Av rfl fun w62 g62 h62=>?_
     replace AQ:=AX g62 h61 (Ne.symm A3)
     replace ow:=((ow.kn AEp).offR g61 (AU Gj)).offR g62 (AU Ml)
     replace kr:=((kr.kn AEp).offR g61 (AU EW)).offR g62 (AU Mm)
     replace HG:=AD (AD (AA HG AEp) g61 CP) g62 FJ
     replace Av:=h62
     refine AE ?_
     refine k59 _ _ ?_
     refine AL2 ?_
     repeat refine AL ?_
     refine BK (fn:=Tryz.f36) AGw (Ba (p:=4) (q:=5) Tryz.results36 AGw rfl rfl rfl rfl (Bb hsa hpo (.slice ((some ⟨A,0,none⟩)) ks.length ks.length) rfl) (EH 0) AQ Av) (Bn Tryz.func81 (by kernel_rfl) rfl _ _) (F7 _ _ _) ?_
     exact VRes.mk (P:=ks.map VK.p) (by unfold L8;rw[if_pos hv,if_pos hf]) hmp ow kr HG
end Go.Proofs.YtbfjfnbcmojpiaaGreat
