import Derived.Test.YtbfjfnbcmojpiaaGreatOpV3
set_option linter.unusedSimpArgs false
set_option linter.unusedVariables false
set_option maxRecDepth 100000
set_option maxHeartbeats 4000000
namespace Go.Proofs.YtbfjfnbcmojpiaaGreat
open Go.RowKit Go.Shelf
theorem CH {P:Program} {f:Nat} {fn:Func} {c:Code} (hf:P.funcs[f]?=some fn) (hname:(fn.name == "runtime.NumGoroutine")=false) (hb:fn.body=some c) (cap:Array Value) (w:World) :
  (invoke (.fn (.func f) cap) #[]).run P w=.ok (.enter f cap) w:=by
 have h1:fn.name≠"runtime.NumGoroutine":=by simpa using hname
 simp[invoke,callFunc,hf,h1,hb]
theorem NE (w:World):CallsD Tryz.prog 65 #[] .returning w fun e u' w'=>e=.returned (.tuple #[])∧u'=.returning∧w'=w:=by
 refine callsD_of_wpS Tryz.func65 rfl fun c₀ cs hu=>?_
 apply wpS_region
 simp[wpOpsS,go_sem,recoverD,hu,Tryz.ntmps65]
 cases c₀
 simp_all [bodyPostS,results,Tryz.results65]
theorem DB (w:World):CallsD Tryz.prog 95 #[] .returning w fun e u' w'=>e=.returned (.tuple #[])∧u'=.returning∧w'=w:=by
 refine callsD_of_wpS Tryz.func95 rfl fun c₀ cs hu=>?_
 apply wpS_region
 simp[wpOpsS,go_sem,recoverD,hu,Tryz.ntmps95]
 cases c₀
 simp_all [bodyPostS,results,Tryz.results95]
theorem Fo (p q:Value) (w:World):CallsD Tryz.prog 81 #[p,q] .returning w fun e u' w'=>e=.returned (.tuple #[])∧u'=.returning∧w'=w:=by
 refine callsD_of_wpS Tryz.func81 rfl fun c₀ cs hu=>?_
 apply wpS_seq
 apply wpS_region
 simp[wpOpsS,go_sem,recoverD,hu,Tryz.ntmps81,Exit.thenS]
 refine wpS_cond (t:=false) (by simp[Act.eval,Array.replicate]) ?_
 simp only[Bool.false_eq_true,if_false]
 refine wpS_of_wp (AKU ?_)
 cases c₀
 simp_all [bodyPostS,results,Tryz.results81]
theorem Ie (p q:Value) (w:World):CallsD Tryz.prog 77 #[p,q] .returning w fun e u' w'=>e=.returned (.tuple #[])∧u'=.returning∧w'=w:=by
 refine callsD_of_wpS Tryz.func77 rfl fun c₀ cs hu=>?_
 apply wpS_seq
 apply wpS_region
 simp[wpOpsS,go_sem,recoverD,hu,Tryz.ntmps77,Exit.thenS]
 refine wpS_cond (t:=false) (by simp[Act.eval,Array.replicate]) ?_
 simp only[Bool.false_eq_true,if_false]
 refine wpS_of_wp (AKU ?_)
 cases c₀
 simp_all [bodyPostS,results,Tryz.results77]
theorem Ig {w:World} {s:Value} {l:List Nd} {b:Bool} (hb:Gy l=b) (h:RdT w s l):Calls Tryz.prog 97 #[.agg #[s]] w fun e w'=>e=.returned (.bool b)∧w.grownBy w' none:=hb▸Yg h
theorem Ev {w:World} {s:Value} {l:List Nd} {b:Bool} (hb:Gy l=b) (h:RdT w s l):Calls Tryz.prog 87 #[.agg #[s]] w fun e w'=>e=.returned (.bool b)∧w.grownBy w' none:=hb▸VW h
theorem D0 {a b:Bool} (h:a=b):Ending.returned (.bool a)=Ending.returned (.bool b):=by rw[h]
theorem AIb {a b:Int} (h:a=b):Ending.returned (.int .i64 a)=Ending.returned (.int .i64 b):=by rw[h]
theorem RdK.kt {w:World} {v:Value} {ks:List VK} (h:RdK w v ks) {j:Nat} (hj:j<ks.length) {x:VK} (hx:ks[j]=x):RdT w x.s x.l:=h.2 x (hx▸List.getElem_mem hj)
theorem AGf {ks:List VK} {i:Nat} {x y:VK} (hi:i<ks.length) (hp:i-1<ks.length) (hx:ks[i]=x) (hy:ks[i-1]=y):chk (ks.map VK.p) i=((decide (i=0)||E6 y.o x.o)&&Gy x.l):=by
 unfold chk
 rw[PF hi,PF hp,TI hi,hx,hy]
theorem ABY (ks:List VK) (ao:Option Addr) (cap:Nat) (sa po:List Nat) (hsa:Dg sa) (hpo:Dg po) (o:List Nat) (ho:Dg o) (w:World) (hr:RdK w (.slice ao ks.length cap) ks) (hs:Srt (ks.map VK.p)) (h64:ks.length≤64) :
  Calls Tryz.prog 71 #[A8 sa po (.slice ao ks.length cap),AQ o] w fun e w'=>e=.returned (.tuple #[.int .i64 (pos (ks.map VK.p) o),.bool (LO (ks.map VK.p) o)])∧w.grownBy w' none:=by
 refine BV Tryz.func71 rfl Tryz.ntmps71 rfl fun a0 sv0=>?_
 have HG:=World.grownBy.refl w none
 replace sv0:Sv 12 [] [(0,A8 sa po (.slice ao ks.length cap)),(1,AQ o)] a0:=sv0
 refine AKQ fun K1 k1=>?_
 refine AKP ?_
 refine Be sv0 r6 (CX hsa hpo (.slice ao ks.length cap) rfl) fun a2 w2 CP DG g2 z2 AH sv2=>?_
 refine Be sv2 r6 (Bb o ho.1) fun a3 w3 BO Dw g3 z3 AG sv3=>?_
 replace AH:=AC g3 AH
 replace hr:=(hr.kn g2).kn g3
 refine AR (v:=.int .i64 0) sv3 r6 fun a4 sv4=>?_
 refine AR (v:=.bool false) sv4 r6 fun a5 sv5=>?_
 refine AE ?_
 refine k1 _ _ ?_
 refine AKQ fun K6 k6=>?_
 refine AKP ?_
 refine AJ sv5 6 [(6,pk CP 64),(7,.slice ao ks.length cap),(8,AQ o),(9,.tuple #[.int .i64 ((pos (ks.map VK.p) o:Int)),.bool (LO (ks.map VK.p) o)]),(10,.int .i64 ((pos (ks.map VK.p) o:Int))),(11,.bool (LO (ks.map VK.p) o))]
  ⟨yf r6 (fun _=>by kernel_rfl),yp (i:=2) r6 (Dd (.slice ao ks.length cap) rfl) AH rfl (by simp[AO,Ac,hsa.1,hpo.1]),yl r6 (Bb o ho.1) AG,Al [.slice ao ks.length cap,AQ o,.func (.func 96) #[] #[]] Tryz.func113 (by kernel_rfl) rq4 ⟨(oy rfl rfl),(oy rfl rfl),rfl,AKW⟩ (A7 fun W g=>TK ks ao cap o ho W (hr.kn g) hs h64),BZ rq4 (fun _ _ h=>⟨_,_,h,rfl,rfl⟩),BZ rq4 (fun _ _ h=>⟨_,_,h,rfl,rfl⟩),AKW⟩ fun a7 w7 g7 sv7=>?_
 refine AR (v:=.int .i64 ((pos (ks.map VK.p) o:Int))) sv7 r6 fun a8 sv8=>?_
 refine AR (v:=.bool (LO (ks.map VK.p) o)) sv8 r6 fun a9 sv9=>?_
 have BF:Sv _ _ [_,_,_,_] _:=sv9.dl [6,7,8,9,10,11,3,2]
 refine AE ?_
 refine k6 _ _ ?_
 replace HG:=AA (AA (AA HG g2) g3) g7
 refine AKT ?_
 repeat refine AK ?_
 refine Aw (fn:=Tryz.f71) BF (Mb (p:=4) (q:=5) Tryz.results71 BF rfl rfl rfl rfl) ?_
 exact⟨rfl,HG⟩
theorem AFc (ks:List VK) (ao:Option Addr) (cap:Nat) (sa po:List Nat) (hsa:Dg sa) (hpo:Dg po) (o:List Nat) (ho:Dg o) (w:World) (hr:RdK w (.slice ao ks.length cap) ks) (hs:Srt (ks.map VK.p)) :
   Calls Tryz.prog 84 #[A8 sa po (.slice ao ks.length cap),AQ o] w fun e w'=>e=.returned (.int .i64 (atV (ks.map VK.p) o))∧w.grownBy w' none:=by
 have hlen:=hr.len
 have hmap:(ks.map VK.p).length=ks.length:=List.length_map _
 refine BV Tryz.func84 rfl Tryz.ntmps84 rfl fun a0 sv0=>?_
 have HG:=World.grownBy.refl w none
 replace sv0:Sv 22 [] [(0,A8 sa po (.slice ao ks.length cap)),(1,AQ o)] a0:=sv0
 refine AKQ fun K1 k1=>?_
 refine AKP ?_
 refine Be sv0 r6 (CX hsa hpo (.slice ao ks.length cap) rfl) fun a2 w2 CP DG g2 z2 AH sv2=>?_
 refine Be sv2 r6 (Bb o ho.1) fun a3 w3 BO Dw g3 z3 AG sv3=>?_
 replace AH:=AC g3 AH
 replace hr:=(hr.kn g2).kn g3
 replace HG:=AA (AA HG g2) g3
 refine AR (v:=.int .i64 0) sv3 r6 fun a4 sv4=>?_
 refine AE ?_
 refine k1 _ _ ?_
 refine AKQ fun K5 k5=>?_
 refine AKQ fun K6 k6=>?_
 refine AKP ?_
 refine AR (v:=.int .i64 0) sv4 r6 fun a7 sv7=>?_
 refine AE ?_
 refine k6 _ _ ?_
 refine BI fun Q8 x8 y8 r8 o8=>?_
 refine wp_loop (fun a w'=>∃(i:Nat),(i≤ks.length)∧(∀k,k<i→od (ks.map VK.p) k≠o)∧Sv 22 [] [(5,.int .i64 ((i:Int))),(3,pt BO),(2,pt CP),(0,A8 sa po (.slice ao ks.length cap)),(1,AQ o)] a∧w.grownBy w' none∧w'.heap[CP]?=some (.cells ([bv sa,bv po,[.slice ao ks.length cap]].flatten).toArray 36 (0,0))∧w'.heap[BO]?=some (.cells (bv o).toArray 23 (0,0))∧RdK w' (.slice ao ks.length cap) ks) (fun a _=>(ks.length-intOf (a.tmps.getD 5 undef)).toNat) ⟨0,Nat.zero_le _,fun k hk=>by omega,⟨sv7.1,sv7.2.1,sv7.2.2.1,sv7.2.2.2.2.1,sv7.2.2.2.2.2.1,sv7.2.2.2.2.2.2.1,sv7.2.2.2.2.2.2.2.1,AKW⟩,HG,AH,AG,hr⟩ fun a9 w9 hI9=>?_
 clear AH
 clear AG
 clear hr
 clear HG
 obtain⟨i,hin,hb,sv9,HG,AH,AG,hr⟩:=hI9
 refine AKQ fun K10 k10=>?_
 refine AKQ fun K11 k11=>?_
 by_cases hi:i<ks.length
 · obtain⟨x,hx_x⟩:∃x,ks[i]'hi=x:=⟨_,rfl⟩
   have hod:od (ks.map VK.p) i=x.o:=by rw[PF hi,hx_x]
   refine AKP ?_
   refine AJ sv9 5 [(6,.int .i64 ((i:Int))),(7,pk CP 64),(8,.slice ao ks.length cap),(9,.int .i64 ((ks.length:Nat))),(10,.bool true)]
     ⟨ym r5,yf r6 (fun _=>by kernel_rfl),yp (i:=2) r6 (Dd (.slice ao ks.length cap) rfl) AH rfl (by simp[AO,Ac,hsa.1,hpo.1]),Au (Tryz.underlying34) rfl rfl trivial (oy rfl rfl) (fun _=>rfl),FG r7 (fun _=>BJ (by simp;omega)),AKW⟩ fun a12 w12 g12 Cq=>?_
   refine AE ?_
   refine k11 _ _ ?_
   refine Ar Cq rfl rfl ?_
   refine AKU ?_
   refine k10 _ _ ?_
   refine AKQ fun K13 k13=>?_
   refine BI fun Q14 x14 y14 r14 o14=>?_
   refine AKQ fun K15 k15=>?_
   replace AH:=AC g12 AH
   replace AG:=AC g12 AG
   replace hr:=hr.kn g12
   replace HG:=AA HG g12
   by_cases heq:x.o=o
   · have hyes:=S5 hs (by omega) (hod.trans heq)
     refine DU Cq [(13,pk CP 64),(14,.slice ao ks.length cap),(15,.int .i64 ((i:Int))),(16,pk ((bO ao)) (oO ao+i*33)),(17,pk ((bO ao)) (oO ao+i*33)),(18,AQ x.o),(19,AQ o),(20,.bool true)]
      ⟨yf r6 (fun _=>by kernel_rfl),yp (i:=2) r6 (Dd (.slice ao ks.length cap) rfl) AH rfl (by simp[AO,Ac,hsa.1,hpo.1]),ym r5,BH rq8 (fun w=>CU Tryz.underlying34 (by kernel_rfl) (hr.1.1) (by omega) (rfl) w),yf r6 (fun _=>by kernel_rfl),Bg r6 (fun _ g=>AY (Bb x.o x.ho.1) (RdK.ownerX (hr.kn g) rfl hi hx_x)),yl r6 (Bb o ho.1) AG,FG r7 (fun _=>(Ef x.ho ho _ _ _).1.trans (by rw[decide_eq_true (heq)])),AKW⟩ fun a16 w16 g16 Cr=>?_
     refine k15 _ _ ?_
     refine Ar Cr rfl rfl ?_
     refine AKQ fun K17 k17=>?_
     refine AKP ?_
     refine AJ Cr 1 [(21,.int .i64 ((i:Int)))]
      ⟨ym r5,AKW⟩ fun a18 w18 g18 CQ=>?_
     have Yy:=AA g16 g18
     refine AR (v:=.int .i64 ((i:Int))) CQ r6 fun a19 Cs=>?_
     refine AE ?_
     refine k17 _ _ ?_
     replace AH:=AC Yy AH
     replace AG:=AC Yy AG
     replace hr:=hr.kn Yy
     replace HG:=AA HG Yy
     refine AKT ?_
     repeat refine AK ?_
     refine r14 _ _ ?_
     repeat refine AK ?_
     refine r8 _ _ ?_
     repeat refine AK ?_
     refine Aw (fn:=Tryz.f84) Cs (BC (p:=4) Tryz.results84 Cs rfl rfl) ?_
     exact⟨AIb (by unfold atV;rw[hyes.1,hyes.2];rfl),HG⟩
   · have hne:=heq
     refine DU Cq [(13,pk CP 64),(14,.slice ao ks.length cap),(15,.int .i64 ((i:Int))),(16,pk ((bO ao)) (oO ao+i*33)),(17,pk ((bO ao)) (oO ao+i*33)),(18,AQ x.o),(19,AQ o),(20,.bool false)]
      ⟨yf r6 (fun _=>by kernel_rfl),yp (i:=2) r6 (Dd (.slice ao ks.length cap) rfl) AH rfl (by simp[AO,Ac,hsa.1,hpo.1]),ym r5,BH rq8 (fun w=>CU Tryz.underlying34 (by kernel_rfl) (hr.1.1) (by omega) (rfl) w),yf r6 (fun _=>by kernel_rfl),Bg r6 (fun _ g=>AY (Bb x.o x.ho.1) (RdK.ownerX (hr.kn g) rfl hi hx_x)),yl r6 (Bb o ho.1) AG,FG r7 (fun _=>(Ef x.ho ho _ _ _).1.trans (by rw[decide_eq_false (heq)])),AKW⟩ fun a20 w20 g20 DH=>?_
     refine k15 _ _ ?_
     refine A2 DH rfl rfl ?_
     refine AKU ?_
     refine y14 _ _ ?_
     refine k13 _ _ ?_
     refine AKP ?_
     refine AJ DH 2 [(11,.int .i64 ((i:Int))),(12,.int .i64 (((i+1:Nat):Int)))]
      ⟨ym r5,Cp r6 (fun _=>DL (by rw[Bc (by omega) (by omega)];omega)),AKW⟩ fun a21 w21 g21 CK=>?_
     have AFd:=AA g20 g21
     refine AR (v:=.int .i64 (((i+1:Nat):Int))) CK r6 fun a22 Bu=>?_
     refine AE ?_
     replace AH:=AC AFd AH
     replace AG:=AC AFd AG
     replace hr:=hr.kn AFd
     replace HG:=AA HG AFd
     exact⟨⟨i+1,by omega,fun k hk=>if e:k=i then (by rw[e,hod];exact hne) else hb k (by omega),⟨Bu.1,Bu.2.1,Bu.2.2.1,(AL (AL Bu)).2.2.1,(AL (AL Bu)).2.2.2.1,(AL (AL Bu)).2.2.2.2.1,(AL (AL Bu)).2.2.2.2.2.1,AKW⟩,HG,AH,AG,hr⟩,by rw[show _=_ from Bu.2.2.1,show _=_ from sv9.2.2.1];simp[intOf];omega⟩
 · have hno:LO (ks.map VK.p) o=false:=AHT fun k hk=>hb k (by omega)
   refine AKP ?_
   refine AJ sv9 5 [(6,.int .i64 ((i:Int))),(7,pk CP 64),(8,.slice ao ks.length cap),(9,.int .i64 ((ks.length:Nat))),(10,.bool false)]
     ⟨ym r5,yf r6 (fun _=>by kernel_rfl),yp (i:=2) r6 (Dd (.slice ao ks.length cap) rfl) AH rfl (by simp[AO,Ac,hsa.1,hpo.1]),Au (Tryz.underlying34) rfl rfl trivial (oy rfl rfl) (fun _=>rfl),FG r7 (fun _=>BJ (by simp;omega)),AKW⟩ fun a23 w23 g23 Cl=>?_
   refine AE ?_
   refine k11 _ _ ?_
   refine A2 Cl rfl rfl ?_
   refine wp_exit ?_
   repeat refine CT ?_
   refine x8 _ _ ?_
   refine k5 _ _ ?_
   refine AKQ fun K24 k24=>?_
   refine AKP ?_
   refine AR (v:=.int .i64 (-1)) Cl r6 fun a25 Bz=>?_
   refine AE ?_
   refine k24 _ _ ?_
   replace HG:=AA HG g23
   refine AKT ?_
   repeat refine AK ?_
   refine Aw (fn:=Tryz.f84) Bz (BC (p:=4) Tryz.results84 Bz rfl rfl) ?_
   exact⟨AIb (by unfold atV;rw[hno];rfl),HG⟩
theorem Jf {x y:List Nat} {b:Bool} (hb:E6 x y=b) (hx:Dg x) (hy:Dg y) (w:World):Calls Tryz.prog 86 #[AQ x,AQ y] w fun e w'=>e=.returned (.bool b)∧w.grownBy w' none:=hb▸ABW x y hx hy w
theorem Vr (ks:List VK) (ao:Option Addr) (cap:Nat) (sa po:List Nat) (hsa:Dg sa) (hpo:Dg po) (w:World) (hr:RdK w (.slice ao ks.length cap) ks) :
   Calls Tryz.prog 51 #[A8 sa po (.slice ao ks.length cap)] w fun e w'=>e=.returned (.bool (Cj (ks.map VK.p)))∧w.grownBy w' none:=by
 have hlen:=hr.len
 have hmap:(ks.map VK.p).length=ks.length:=List.length_map _
 refine Dy Tryz.func51 rfl Tryz.ntmps51 rfl fun a0 sv0=>?_
 have HG:=World.grownBy.refl w none
 replace sv0:Sv 38 [] [(0,A8 sa po (.slice ao ks.length cap))] a0:=sv0
 refine AKQ fun K1 k1=>?_
 refine AKP ?_
 refine Be sv0 r6 (CX hsa hpo (.slice ao ks.length cap) rfl) fun a2 w2 CE LB g2 z2 Ae sv2=>?_
 replace hr:=hr.kn g2
 replace HG:=AA HG g2
 refine AR (v:=.bool false) sv2 r6 fun a3 sv3=>?_
 refine AE ?_
 refine k1 _ _ ?_
 refine AKQ fun K4 k4=>?_
 refine AKP ?_
 refine Eo sv3 rfl (dd:={ target:=.fn (.func 95) #[],args:=#[] }) rfl (by simp[execOp,resolve,Deferred.ofValue];try rfl) fun a5 sv5=>?_
 refine AE ?_
 refine k4 _ _ ?_
 refine AKQ fun K6 k6=>?_
 refine AKQ fun K7 k7=>?_
 by_cases hbig:64<ks.length
 · refine AKP ?_
   refine AJ sv5 4 [(5,pk CE 64),(6,.slice ao ks.length cap),(7,.int .i64 ((ks.length:Nat))),(8,.bool true)]
     ⟨yf r6 (fun _=>by kernel_rfl),yp (i:=2) r6 (Dd (.slice ao ks.length cap) rfl) Ae rfl (by simp[AO,Ac,hsa.1,hpo.1]),Au (Tryz.underlying34) rfl rfl trivial (oy rfl rfl) (fun _=>rfl),Cp r6 (fun _=>Bl (by simp;omega)),AKW⟩ fun a8 w8 g8 sv8=>?_
   refine AE ?_
   refine k7 _ _ ?_
   refine Ar sv8 rfl rfl ?_
   refine AKQ fun K9 k9=>?_
   refine AKP ?_
   refine AR (v:=.bool false) sv8 r6 fun a10 BF=>?_
   refine AE ?_
   refine k9 _ _ ?_
   replace Ae:=AC g8 Ae
   replace hr:=hr.kn g8
   replace HG:=AA HG g8
   refine AKT ?_
   repeat refine AK ?_
   refine Bj (fn:=Tryz.f51) BF (BC (p:=2) Tryz.results51 BF rfl rfl) (CH Tryz.func95 (by kernel_rfl) rfl _ _) (DB _) ?_
   exact⟨D0 ((Vs (by omega)).symm),HG⟩
 · refine AKP ?_
   refine AJ sv5 4 [(5,pk CE 64),(6,.slice ao ks.length cap),(7,.int .i64 ((ks.length:Nat))),(8,.bool false)]
     ⟨yf r6 (fun _=>by kernel_rfl),yp (i:=2) r6 (Dd (.slice ao ks.length cap) rfl) Ae rfl (by simp[AO,Ac,hsa.1,hpo.1]),Au (Tryz.underlying34) rfl rfl trivial (oy rfl rfl) (fun _=>rfl),Cp r6 (fun _=>Bl (by simp;omega)),AKW⟩ fun a11 w11 g11 Bv=>?_
   refine AE ?_
   refine k7 _ _ ?_
   refine A2 Bv rfl rfl ?_
   refine AKU ?_
   refine k6 _ _ ?_
   refine AKQ fun K12 k12=>?_
   refine AKQ fun K13 k13=>?_
   refine AKP ?_
   refine AJ Bv 4 [(9,pk CE 64),(10,.slice ao ks.length cap),(11,.int .i64 ((ks.length:Nat))),(12,.int .i64 0)]
     ⟨yf r6 (fun _=>by kernel_rfl),yp (i:=2) r6 (Dd (.slice ao ks.length cap) rfl) (AC g11 Ae) rfl (by simp[AO,Ac,hsa.1,hpo.1]),Au (Tryz.underlying34) rfl rfl trivial (oy rfl rfl) (fun _=>rfl),En (.inl rfl) rfl trivial (fun _=>rfl),AKW⟩ fun a14 w14 g14 C6=>?_
   have Vt:=AA g11 g14
   refine AE ?_
   refine k13 _ _ ?_
   refine BI fun Q15 x15 y15 r15 o15=>?_
   replace Ae:=AC Vt Ae
   replace hr:=hr.kn Vt
   replace HG:=AA HG Vt
   refine wp_loop (fun a w'=>∃(i:Nat),(i≤ks.length)∧(∀k,k<i→chk (ks.map VK.p) k=true)∧Sv 38 [{ target:=.fn (.func 95) #[],args:=#[] }] [(12,.int .i64 ((i:Int))),(9,pk CE 64),(10,.slice ao ks.length cap),(11,.int .i64 ((ks.length:Nat))),(5,pk CE 64),(6,.slice ao ks.length cap),(7,.int .i64 ((ks.length:Nat))),(8,.bool false),(1,pt CE),(0,A8 sa po (.slice ao ks.length cap))] a∧w.grownBy w' none∧w'.heap[CE]?=some (.cells ([bv sa,bv po,[.slice ao ks.length cap]].flatten).toArray 36 (0,0))∧RdK w' (.slice ao ks.length cap) ks) (fun a _=>(ks.length-intOf (a.tmps.getD 12 undef)).toNat) ⟨0,Nat.zero_le _,fun k hk=>by omega,⟨C6.1,C6.2.1,C6.2.2.2.2.2.1,C6.2.2.1,C6.2.2.2.1,C6.2.2.2.2.1,C6.2.2.2.2.2.2.1,C6.2.2.2.2.2.2.2.1,(AL C6).1,(AL C6).2.1,(AL C6).2.2.2.1,(AL C6).2.2.2.2.1,AKW⟩,HG,Ae,hr⟩ fun a16 w16 hI16=>?_
   clear Ae
   clear hr
   clear HG
   obtain⟨i,hin,hb,Cr,HG,Ae,hr⟩:=hI16
   refine AKQ fun K17 k17=>?_
   by_cases hi:i<ks.length
   · have hp:i-1<ks.length:=by omega
     obtain⟨x,hx_x⟩:∃x,ks[i]'hi=x:=⟨_,rfl⟩
     obtain⟨y,hx_y⟩:∃x,ks[(i-1)]'hp=x:=⟨_,rfl⟩
     have hchk:=AGf hi hp hx_x hx_y
     refine AKP ?_
     refine AJ Cr 1 [(13,.bool true)]
       ⟨FG r7 (fun _=>BJ (by simp;omega)),AKW⟩ fun a18 w18 g18 CQ=>?_
     refine AE ?_
     refine k17 _ _ ?_
     refine AKQ fun K19 k19=>?_
     refine Ar CQ rfl rfl ?_
     refine AKU ?_
     refine k19 _ _ ?_
     refine AKQ fun K20 k20=>?_
     refine BI fun Q21 x21 y21 r21 o21=>?_
     refine AKQ fun K22 k22=>?_
     refine AKP ?_
     replace hr:=hr.kn g18
     refine AJ CQ 3 [(14,.int .i64 ((i:Int))),(15,pk ((bO ao)) (oO ao+i*33)),(16,IB x)]
       ⟨ym r5,BH rq8 (fun w=>CU Tryz.underlying34 (by kernel_rfl) (hr.1.1) (by omega) (rfl) w),Bg r6 (fun _ g=>AY (Yx x) (RdK.keyX (hr.kn g) rfl hi hx_x)),AKW⟩ fun a23 w23 g23 Cl=>?_
     replace Ae:=AC g23 (AC g18 Ae)
     replace hr:=hr.kn g23
     replace HG:=AA (AA HG g18) g23
     refine BB (T:=58) (Z:=([bv AS,[.slice none 0 0]].flatten)) Cl rfl rfl rfl (fun a w=>by kernel_rfl) fun a24 w24 Np PH g24 z24 D1 Du=>?_
     have QZ:=As Ae PH
     have ADI:=Bq HG PH
     have Vu:=Ay (hr.lt) PH
     refine AR (v:=.int .i64 ((i:Int))) Du r6 fun a25 Bz=>?_
     refine Av Bz r7 (Yx x) D1 (by first|rfl|simp[Ax,AO,Ac,x.ho.1]) fun w26 g26 h26=>?_
     replace Ae:=AZ g26 (AC g24 Ae) (Ne.symm QZ)
     replace hr:=(hr.kn g24).offR g26 (AP Vu)
     replace HG:=AD (AA HG g24) g26 ADI
     replace D1:=h26
     refine AE ?_
     refine k22 _ _ ?_
     refine AKQ fun K27 k27=>?_
     rcases(show(i=0∧Gy x.l=true)∨(i=0∧Gy x.l=false)∨(0<i∧E6 y.o x.o=true∧Gy x.l=true)∨(0<i∧E6 y.o x.o=true∧Gy x.l=false)∨(0<i∧E6 y.o x.o=false∧Gy x.l=true)∨(0<i∧E6 y.o x.o=false∧Gy x.l=false) by
        rcases Nat.eq_zero_or_pos i with h|h<;>cases h2:Gy x.l<;>cases h3:E6 y.o x.o<;>simp[h]) with ⟨hz,hv⟩|⟨hz,hv⟩|⟨hz,hc,hv⟩|⟨hz,hc,hv⟩|⟨hz,hc,hv⟩|⟨hz,hc,hv⟩
     · have hok:((decide (i=0)||E6 y.o x.o)&&Gy x.l)=true:=by simp[hz,hv]
       refine DU Bz [(17,.int .i64 ((i:Int))),(18,.bool false),(19,.bool false),(20,undef),(21,undef),(22,undef),(23,undef),(24,undef),(25,undef),(26,undef),(27,undef),(28,undef),(29,undef),(30,.bool false),(31,.bool false),(32,pk Np 32),(33,.agg #[VK.s x]),(34,.bool true),(35,.bool false),(36,.bool false)]
        ⟨ym r5,Cp r6 (fun _=>Bl (by simp;omega)),ym r5,AN r6,AN r6,AN r6,AN r6,AN r6,AN r6,AN r6,AN r6,AN r6,AN r6,A1 r7,ym r5,Aq rq9 (fun _=>by kernel_rfl),Ai rq9 (fun _ g=>AY (tyT (VK.s x) rfl) (Ak (L:=[bv x.o,[VK.s x]]) (i:=1) (AF g D1 (by simp)) rfl (by simp[AO,Ac,x.ho.1]))),B8 [.agg #[VK.s x]] Tryz.func97 (by kernel_rfl) r7 ⟨(oy rfl rfl),AKW⟩ (A7 fun W g=>Ig hv ((hr.kn g).kt hi hx_x)),IA rfl rfl (gy rfl rfl rfl) (oy rfl rfl) (fun _=>Bi) (fun _=>rfl),Aa rq9,AKW⟩ fun a28 w28 g28 GI=>?_
       refine k27 _ _ ?_
       refine A2 GI rfl rfl ?_
       refine AKU ?_
       refine y21 _ _ ?_
       refine k20 _ _ ?_
       refine AKP ?_
       refine AJ GI 1 [(37,.int .i64 (((i+1:Nat):Int)))]
        ⟨Cp r6 (fun _=>DL (by rw[Bc (by omega) (by omega)];omega)),AKW⟩ fun a29 w29 g29 CY=>?_
       have KR:=AA g28 g29
       refine AJ (CY.dl [12]) 1 [(12,.int .i64 (((i+1:Nat):Int)))]
        ⟨ym r5,AKW⟩ fun a30 w30 g30 Dl=>?_
       have Qa:=AA KR g30
       refine AE ?_
       replace Ae:=AC Qa Ae
       replace D1:=AC Qa D1
       replace hr:=hr.kn Qa
       replace HG:=AA HG Qa
       exact⟨⟨i+1,by omega,fun k hk=>if e:k=i then (by rw[e,hchk];exact hok) else hb k (by omega),⟨Dl.1,Dl.2.1,Dl.2.2.1,(AL (AL (AL Dl))).2.2.2.2.2.2.1,(AL (AL (AL Dl))).2.2.2.2.2.2.2.1,(AL (AL (AL (AL Dl)))).1,(AL (AL (AL (AL Dl)))).2.1,(AL (AL (AL (AL Dl)))).2.2.1,(AL (AL (AL (AL Dl)))).2.2.2.1,(AL (AL (AL (AL Dl)))).2.2.2.2.1,(AL (AL (AL (AL Dl)))).2.2.2.2.2.1,(AL (AL (AL (AL Dl)))).2.2.2.2.2.2.1,AKW⟩,HG,Ae,hr⟩,by rw[show _=_ from Dl.2.2.1,show _=_ from Cr.2.2.1];simp[intOf];omega⟩
     · refine DU Bz [(17,.int .i64 ((i:Int))),(18,.bool false),(19,.bool false),(20,undef),(21,undef),(22,undef),(23,undef),(24,undef),(25,undef),(26,undef),(27,undef),(28,undef),(29,undef),(30,.bool false),(31,.bool false),(32,pk Np 32),(33,.agg #[VK.s x]),(34,.bool false),(35,.bool true),(36,.bool true)]
        ⟨ym r5,Cp r6 (fun _=>Bl (by simp;omega)),ym r5,AN r6,AN r6,AN r6,AN r6,AN r6,AN r6,AN r6,AN r6,AN r6,AN r6,A1 r7,ym r5,Aq rq9 (fun _=>by kernel_rfl),Ai rq9 (fun _ g=>AY (tyT (VK.s x) rfl) (Ak (L:=[bv x.o,[VK.s x]]) (i:=1) (AF g D1 (by simp)) rfl (by simp[AO,Ac,x.ho.1]))),B8 [.agg #[VK.s x]] Tryz.func97 (by kernel_rfl) r7 ⟨(oy rfl rfl),AKW⟩ (A7 fun W g=>Ig hv ((hr.kn g).kt hi hx_x)),IA rfl rfl (gy rfl rfl rfl) (oy rfl rfl) (fun _=>Bi) (fun _=>rfl),Aa rq9,AKW⟩ fun a31 w31 g31 Fp=>?_
       refine k27 _ _ ?_
       refine Ar Fp rfl rfl ?_
       refine AKQ fun K32 k32=>?_
       refine AKP ?_
       refine AR (v:=.bool false) Fp r6 fun a33 Eu=>?_
       refine AE ?_
       refine k32 _ _ ?_
       replace Ae:=AC g31 Ae
       replace D1:=AC g31 D1
       replace hr:=hr.kn g31
       replace HG:=AA HG g31
       refine AKT ?_
       repeat refine AK ?_
       refine r21 _ _ ?_
       repeat refine AK ?_
       refine r15 _ _ ?_
       repeat refine AK ?_
       refine Bj (fn:=Tryz.f51) Eu (BC (p:=2) Tryz.results51 Eu rfl rfl) (CH Tryz.func95 (by kernel_rfl) rfl _ _) (DB _) ?_
       exact⟨D0 ((Ih (i:=i) (by rw[hmap];exact hi) (by rw[hchk];simp[hv])).symm),HG⟩
     · have hok:((decide (i=0)||E6 y.o x.o)&&Gy x.l)=true:=by simp[hz,hv,hc]
       refine DU Bz [(17,.int .i64 ((i:Int))),(18,.bool true),(19,.bool true),(20,pk CE 64),(21,.slice ao ks.length cap),(22,.int .i64 ((i:Int))),(23,.int .i64 (((i-1:Nat):Int))),(24,pk ((bO ao)) (oO ao+(i-1)*33)),(25,IB y),(26,pt Np),(27,AQ x.o),(28,.int .i64 ((Gn y.o x.o))),(29,.bool false),(30,.bool false),(31,.bool false),(32,pk Np 32),(33,.agg #[VK.s x]),(34,.bool true),(35,.bool false),(36,.bool false)]
        ⟨ym r5,Cp r6 (fun _=>Bl (by simp;omega)),ym r5,Aq rq9 (fun _=>by kernel_rfl),Ai rq9 (fun _ g=>AY (Dd (.slice ao ks.length cap) rfl) (Ak (L:=[bv sa,bv po,[.slice ao ks.length cap]]) (i:=2) (AF g Ae (by simp)) rfl (by simp[AO,Ac,hsa.1,hpo.1]))),Ad rq8,Af rq9 (fun _=>Ix (by rw[Bc (by omega) (by omega)];omega)),Dj rfl rfl (gy rfl rfl rfl) (oy rfl rfl) (oy rfl rfl) (fun w=>CU Tryz.underlying34 (by kernel_rfl) (hr.1.1) (by omega) (rfl) w) (fun _=>rfl),Ai rq9 (fun _ g=>AY (Yx y) (RdK.keyX (hr.kn g) rfl hp hx_y)),Aq rq9 (fun _=>by kernel_rfl),Ai rq9 (fun _ g=>AY (Bb x.o x.ho.1) (Ak (L:=[bv x.o,[VK.s x]]) (i:=0) (AF g D1 (by simp)) rfl rfl)),B8 [IB y,AQ x.o] Tryz.func96 (by kernel_rfl) r7 ⟨(oy rfl rfl),(oy rfl rfl),AKW⟩ (A7 fun W g=>GH y x.o x.ho W),Af rq9 (fun _=>Da (by rw[LC,hc];rfl)),Aa rq9,ym r5,Aq rq9 (fun _=>by kernel_rfl),Ai rq9 (fun _ g=>AY (tyT (VK.s x) rfl) (Ak (L:=[bv x.o,[VK.s x]]) (i:=1) (AF g D1 (by simp)) rfl (by simp[AO,Ac,x.ho.1]))),B8 [.agg #[VK.s x]] Tryz.func97 (by kernel_rfl) r7 ⟨(oy rfl rfl),AKW⟩ (A7 fun W g=>Ig hv ((hr.kn g).kt hi hx_x)),IA rfl rfl (gy rfl rfl rfl) (oy rfl rfl) (fun _=>Bi) (fun _=>rfl),Aa rq9,AKW⟩ fun a34 w34 g34 FI=>?_
       refine k27 _ _ ?_
       refine A2 FI rfl rfl ?_
       refine AKU ?_
       refine y21 _ _ ?_
       refine k20 _ _ ?_
       refine AKP ?_
       refine AJ FI 1 [(37,.int .i64 (((i+1:Nat):Int)))]
        ⟨Cp r6 (fun _=>DL (by rw[Bc (by omega) (by omega)];omega)),AKW⟩ fun a35 w35 g35 Iz=>?_
       have AJY:=AA g34 g35
       refine AJ (Iz.dl [12]) 1 [(12,.int .i64 (((i+1:Nat):Int)))]
        ⟨ym r5,AKW⟩ fun a36 w36 g36 Ep=>?_
       have Mc:=AA AJY g36
       refine AE ?_
       replace Ae:=AC Mc Ae
       replace D1:=AC Mc D1
       replace hr:=hr.kn Mc
       replace HG:=AA HG Mc
       exact⟨⟨i+1,by omega,fun k hk=>if e:k=i then (by rw[e,hchk];exact hok) else hb k (by omega),⟨Ep.1,Ep.2.1,Ep.2.2.1,(AL (AL (AL Ep))).2.2.2.2.2.2.1,(AL (AL (AL Ep))).2.2.2.2.2.2.2.1,(AL (AL (AL (AL Ep)))).1,(AL (AL (AL (AL Ep)))).2.1,(AL (AL (AL (AL Ep)))).2.2.1,(AL (AL (AL (AL Ep)))).2.2.2.1,(AL (AL (AL (AL Ep)))).2.2.2.2.1,(AL (AL (AL (AL Ep)))).2.2.2.2.2.1,(AL (AL (AL (AL Ep)))).2.2.2.2.2.2.1,AKW⟩,HG,Ae,hr⟩,by rw[show _=_ from Ep.2.2.1,show _=_ from Cr.2.2.1];simp[intOf];omega⟩
     · refine DU Bz [(17,.int .i64 ((i:Int))),(18,.bool true),(19,.bool true),(20,pk CE 64),(21,.slice ao ks.length cap),(22,.int .i64 ((i:Int))),(23,.int .i64 (((i-1:Nat):Int))),(24,pk ((bO ao)) (oO ao+(i-1)*33)),(25,IB y),(26,pt Np),(27,AQ x.o),(28,.int .i64 ((Gn y.o x.o))),(29,.bool false),(30,.bool false),(31,.bool false),(32,pk Np 32),(33,.agg #[VK.s x]),(34,.bool false),(35,.bool true),(36,.bool true)]
        ⟨ym r5,Cp r6 (fun _=>Bl (by simp;omega)),ym r5,Aq rq9 (fun _=>by kernel_rfl),Ai rq9 (fun _ g=>AY (Dd (.slice ao ks.length cap) rfl) (Ak (L:=[bv sa,bv po,[.slice ao ks.length cap]]) (i:=2) (AF g Ae (by simp)) rfl (by simp[AO,Ac,hsa.1,hpo.1]))),Ad rq8,Af rq9 (fun _=>Ix (by rw[Bc (by omega) (by omega)];omega)),Dj rfl rfl (gy rfl rfl rfl) (oy rfl rfl) (oy rfl rfl) (fun w=>CU Tryz.underlying34 (by kernel_rfl) (hr.1.1) (by omega) (rfl) w) (fun _=>rfl),Ai rq9 (fun _ g=>AY (Yx y) (RdK.keyX (hr.kn g) rfl hp hx_y)),Aq rq9 (fun _=>by kernel_rfl),Ai rq9 (fun _ g=>AY (Bb x.o x.ho.1) (Ak (L:=[bv x.o,[VK.s x]]) (i:=0) (AF g D1 (by simp)) rfl rfl)),B8 [IB y,AQ x.o] Tryz.func96 (by kernel_rfl) r7 ⟨(oy rfl rfl),(oy rfl rfl),AKW⟩ (A7 fun W g=>GH y x.o x.ho W),Af rq9 (fun _=>Da (by rw[LC,hc];rfl)),Aa rq9,ym r5,Aq rq9 (fun _=>by kernel_rfl),Ai rq9 (fun _ g=>AY (tyT (VK.s x) rfl) (Ak (L:=[bv x.o,[VK.s x]]) (i:=1) (AF g D1 (by simp)) rfl (by simp[AO,Ac,x.ho.1]))),B8 [.agg #[VK.s x]] Tryz.func97 (by kernel_rfl) r7 ⟨(oy rfl rfl),AKW⟩ (A7 fun W g=>Ig hv ((hr.kn g).kt hi hx_x)),IA rfl rfl (gy rfl rfl rfl) (oy rfl rfl) (fun _=>Bi) (fun _=>rfl),Aa rq9,AKW⟩ fun a37 w37 g37 IE=>?_
       refine k27 _ _ ?_
       refine Ar IE rfl rfl ?_
       refine AKQ fun K38 k38=>?_
       refine AKP ?_
       refine AR (v:=.bool false) IE r6 fun a39 LP=>?_
       refine AE ?_
       refine k38 _ _ ?_
       replace Ae:=AC g37 Ae
       replace D1:=AC g37 D1
       replace hr:=hr.kn g37
       replace HG:=AA HG g37
       refine AKT ?_
       repeat refine AK ?_
       refine r21 _ _ ?_
       repeat refine AK ?_
       refine r15 _ _ ?_
       repeat refine AK ?_
       refine Bj (fn:=Tryz.f51) LP (BC (p:=2) Tryz.results51 LP rfl rfl) (CH Tryz.func95 (by kernel_rfl) rfl _ _) (DB _) ?_
       exact⟨D0 ((Ih (i:=i) (by rw[hmap];exact hi) (by rw[hchk];simp[hv,hc,Nat.ne_of_gt hz])).symm),HG⟩
     · refine DU Bz [(17,.int .i64 ((i:Int))),(18,.bool true),(19,.bool true),(20,pk CE 64),(21,.slice ao ks.length cap),(22,.int .i64 ((i:Int))),(23,.int .i64 (((i-1:Nat):Int))),(24,pk ((bO ao)) (oO ao+(i-1)*33)),(25,IB y),(26,pt Np),(27,AQ x.o),(28,.int .i64 ((Gn y.o x.o))),(29,.bool true),(30,.bool true),(31,.bool true),(32,undef),(33,undef),(34,undef),(35,undef),(36,.bool true)]
        ⟨ym r5,Cp r6 (fun _=>Bl (by simp;omega)),ym r5,Aq rq9 (fun _=>by kernel_rfl),Ai rq9 (fun _ g=>AY (Dd (.slice ao ks.length cap) rfl) (Ak (L:=[bv sa,bv po,[.slice ao ks.length cap]]) (i:=2) (AF g Ae (by simp)) rfl (by simp[AO,Ac,hsa.1,hpo.1]))),Ad rq8,Af rq9 (fun _=>Ix (by rw[Bc (by omega) (by omega)];omega)),Dj rfl rfl (gy rfl rfl rfl) (oy rfl rfl) (oy rfl rfl) (fun w=>CU Tryz.underlying34 (by kernel_rfl) (hr.1.1) (by omega) (rfl) w) (fun _=>rfl),Ai rq9 (fun _ g=>AY (Yx y) (RdK.keyX (hr.kn g) rfl hp hx_y)),Aq rq9 (fun _=>by kernel_rfl),Ai rq9 (fun _ g=>AY (Bb x.o x.ho.1) (Ak (L:=[bv x.o,[VK.s x]]) (i:=0) (AF g D1 (by simp)) rfl rfl)),B8 [IB y,AQ x.o] Tryz.func96 (by kernel_rfl) r7 ⟨(oy rfl rfl),(oy rfl rfl),AKW⟩ (A7 fun W g=>GH y x.o x.ho W),Af rq9 (fun _=>Da (by rw[LC,hc];rfl)),Aa rq9,ym r5,AN r6,AN r6,AN r6,AN r6,A1 r7,AKW⟩ fun a40 w40 g40 IG=>?_
       refine k27 _ _ ?_
       refine Ar IG rfl rfl ?_
       refine AKQ fun K41 k41=>?_
       refine AKP ?_
       refine AR (v:=.bool false) IG r6 fun a42 Gp=>?_
       refine AE ?_
       refine k41 _ _ ?_
       replace Ae:=AC g40 Ae
       replace D1:=AC g40 D1
       replace hr:=hr.kn g40
       replace HG:=AA HG g40
       refine AKT ?_
       repeat refine AK ?_
       refine r21 _ _ ?_
       repeat refine AK ?_
       refine r15 _ _ ?_
       repeat refine AK ?_
       refine Bj (fn:=Tryz.f51) Gp (BC (p:=2) Tryz.results51 Gp rfl rfl) (CH Tryz.func95 (by kernel_rfl) rfl _ _) (DB _) ?_
       exact⟨D0 ((Ih (i:=i) (by rw[hmap];exact hi) (by rw[hchk];simp[hv,hc,Nat.ne_of_gt hz])).symm),HG⟩
     · refine DU Bz [(17,.int .i64 ((i:Int))),(18,.bool true),(19,.bool true),(20,pk CE 64),(21,.slice ao ks.length cap),(22,.int .i64 ((i:Int))),(23,.int .i64 (((i-1:Nat):Int))),(24,pk ((bO ao)) (oO ao+(i-1)*33)),(25,IB y),(26,pt Np),(27,AQ x.o),(28,.int .i64 ((Gn y.o x.o))),(29,.bool true),(30,.bool true),(31,.bool true),(32,undef),(33,undef),(34,undef),(35,undef),(36,.bool true)]
        ⟨ym r5,Cp r6 (fun _=>Bl (by simp;omega)),ym r5,Aq rq9 (fun _=>by kernel_rfl),Ai rq9 (fun _ g=>AY (Dd (.slice ao ks.length cap) rfl) (Ak (L:=[bv sa,bv po,[.slice ao ks.length cap]]) (i:=2) (AF g Ae (by simp)) rfl (by simp[AO,Ac,hsa.1,hpo.1]))),Ad rq8,Af rq9 (fun _=>Ix (by rw[Bc (by omega) (by omega)];omega)),Dj rfl rfl (gy rfl rfl rfl) (oy rfl rfl) (oy rfl rfl) (fun w=>CU Tryz.underlying34 (by kernel_rfl) (hr.1.1) (by omega) (rfl) w) (fun _=>rfl),Ai rq9 (fun _ g=>AY (Yx y) (RdK.keyX (hr.kn g) rfl hp hx_y)),Aq rq9 (fun _=>by kernel_rfl),Ai rq9 (fun _ g=>AY (Bb x.o x.ho.1) (Ak (L:=[bv x.o,[VK.s x]]) (i:=0) (AF g D1 (by simp)) rfl rfl)),B8 [IB y,AQ x.o] Tryz.func96 (by kernel_rfl) r7 ⟨(oy rfl rfl),(oy rfl rfl),AKW⟩ (A7 fun W g=>GH y x.o x.ho W),Af rq9 (fun _=>Da (by rw[LC,hc];rfl)),Aa rq9,ym r5,AN r6,AN r6,AN r6,AN r6,A1 r7,AKW⟩ fun a43 w43 g43 Hn=>?_
       refine k27 _ _ ?_
       refine Ar Hn rfl rfl ?_
       refine AKQ fun K44 k44=>?_
       refine AKP ?_
       refine AR (v:=.bool false) Hn r6 fun a45 E8=>?_
       refine AE ?_
       refine k44 _ _ ?_
       replace HG:=AA HG g43
       refine AKT ?_
       repeat refine AK ?_
       refine r21 _ _ ?_
       repeat refine AK ?_
       refine r15 _ _ ?_
       repeat refine AK ?_
       refine Bj (fn:=Tryz.f51) E8 (BC (p:=2) Tryz.results51 E8 rfl rfl) (CH Tryz.func95 (by kernel_rfl) rfl _ _) (DB _) ?_
       exact⟨D0 ((Ih (i:=i) (by rw[hmap];exact hi) (by rw[hchk];simp[hv,hc,Nat.ne_of_gt hz])).symm),HG⟩
   · refine AKP ?_
     refine AJ Cr 1 [(13,.bool false)]
       ⟨FG r7 (fun _=>BJ (by simp;omega)),AKW⟩ fun a46 w46 g46 I0=>?_
     refine AE ?_
     refine k17 _ _ ?_
     refine AKQ fun K47 k47=>?_
     refine A2 I0 rfl rfl ?_
     refine wp_exit ?_
     repeat refine CT ?_
     refine x15 _ _ ?_
     refine k12 _ _ ?_
     refine AKQ fun K48 k48=>?_
     refine AKP ?_
     refine AR (v:=.bool true) I0 r6 fun a49 LQ=>?_
     refine AE ?_
     refine k48 _ _ ?_
     replace HG:=AA HG g46
     refine AKT ?_
     repeat refine AK ?_
     refine Bj (fn:=Tryz.f51) LQ (BC (p:=2) Tryz.results51 LQ rfl rfl) (CH Tryz.func95 (by kernel_rfl) rfl _ _) (DB _) ?_
     exact⟨D0 ((Vv (by omega) fun k hk=>hb k (by omega)).symm),HG⟩
theorem TM (ks:List VK) (ao:Option Addr) (cap:Nat) (sa po:List Nat) (hsa:Dg sa) (hpo:Dg po) (w:World) (hr:RdK w (.slice ao ks.length cap) ks) :
   Calls Tryz.prog 40 #[A8 sa po (.slice ao ks.length cap)] w fun e w'=>e=.returned (.bool (Cj (ks.map VK.p)))∧w.grownBy w' none:=by
 have hlen:=hr.len
 have hmap:(ks.map VK.p).length=ks.length:=List.length_map _
 refine BV Tryz.func40 rfl Tryz.ntmps40 rfl fun a0 sv0=>?_
 have HG:=World.grownBy.refl w none
 replace sv0:Sv 44 [] [(0,A8 sa po (.slice ao ks.length cap))] a0:=sv0
 refine AKQ fun K1 k1=>?_
 refine AKP ?_
 refine Be sv0 r6 (CX hsa hpo (.slice ao ks.length cap) rfl) fun a2 w2 CE LB g2 z2 Ae sv2=>?_
 replace hr:=hr.kn g2
 replace HG:=AA HG g2
 refine AR (v:=.bool false) sv2 r6 fun a3 sv3=>?_
 refine AE ?_
 refine k1 _ _ ?_
 refine AKQ fun K4 k4=>?_
 refine AKQ fun K5 k5=>?_
 by_cases hbig:64<ks.length
 · refine AKP ?_
   refine AJ sv3 4 [(4,pk CE 64),(5,.slice ao ks.length cap),(6,.int .i64 ((ks.length:Nat))),(7,.bool true)]
     ⟨yf r6 (fun _=>by kernel_rfl),yp (i:=2) r6 (Dd (.slice ao ks.length cap) rfl) Ae rfl (by simp[AO,Ac,hsa.1,hpo.1]),Au (Tryz.underlying34) rfl rfl trivial (oy rfl rfl) (fun _=>rfl),Cp r6 (fun _=>Bl (by simp;omega)),AKW⟩ fun a6 w6 g6 sv6=>?_
   refine AE ?_
   refine k5 _ _ ?_
   refine Ar sv6 rfl rfl ?_
   refine AKQ fun K7 k7=>?_
   refine AKP ?_
   refine AR (v:=.bool false) sv6 r6 fun a8 sv8=>?_
   refine AE ?_
   refine k7 _ _ ?_
   replace Ae:=AC g6 Ae
   replace hr:=hr.kn g6
   replace HG:=AA HG g6
   refine AKT ?_
   repeat refine AK ?_
   refine Aw (fn:=Tryz.f40) sv8 (BC (p:=2) Tryz.results40 sv8 rfl rfl) ?_
   exact⟨D0 ((Vs (by omega)).symm),HG⟩
 · refine AKP ?_
   refine AJ sv3 4 [(4,pk CE 64),(5,.slice ao ks.length cap),(6,.int .i64 ((ks.length:Nat))),(7,.bool false)]
     ⟨yf r6 (fun _=>by kernel_rfl),yp (i:=2) r6 (Dd (.slice ao ks.length cap) rfl) Ae rfl (by simp[AO,Ac,hsa.1,hpo.1]),Au (Tryz.underlying34) rfl rfl trivial (oy rfl rfl) (fun _=>rfl),Cp r6 (fun _=>Bl (by simp;omega)),AKW⟩ fun a9 w9 g9 sv9=>?_
   refine AE ?_
   refine k5 _ _ ?_
   refine A2 sv9 rfl rfl ?_
   refine AKU ?_
   refine k4 _ _ ?_
   refine AKQ fun K10 k10=>?_
   refine AKQ fun K11 k11=>?_
   refine AKP ?_
   refine AR (v:=.int .i64 0) sv9 r6 fun a12 Cq=>?_
   refine AE ?_
   refine k11 _ _ ?_
   refine BI fun Q13 x13 y13 r13 o13=>?_
   replace Ae:=AC g9 Ae
   replace hr:=hr.kn g9
   replace HG:=AA HG g9
   refine wp_loop (fun a w'=>∃(i:Nat),(i≤ks.length)∧(∀k,k<i→chk (ks.map VK.p) k=true)∧Sv 44 [] [(3,.int .i64 ((i:Int))),(4,pk CE 64),(5,.slice ao ks.length cap),(6,.int .i64 ((ks.length:Nat))),(7,.bool false),(1,pt CE),(0,A8 sa po (.slice ao ks.length cap))] a∧w.grownBy w' none∧w'.heap[CE]?=some (.cells ([bv sa,bv po,[.slice ao ks.length cap]].flatten).toArray 36 (0,0))∧RdK w' (.slice ao ks.length cap) ks) (fun a _=>(ks.length-intOf (a.tmps.getD 3 undef)).toNat) ⟨0,Nat.zero_le _,fun k hk=>by omega,⟨Cq.1,Cq.2.1,Cq.2.2.1,Cq.2.2.2.1,Cq.2.2.2.2.1,Cq.2.2.2.2.2.1,Cq.2.2.2.2.2.2.1,(AL Cq).1,(AL Cq).2.1,AKW⟩,HG,Ae,hr⟩ fun a14 w14 hI14=>?_
   clear Ae
   clear hr
   clear HG
   obtain⟨i,hin,hb,C6,HG,Ae,hr⟩:=hI14
   refine AKQ fun K15 k15=>?_
   refine AKQ fun K16 k16=>?_
   by_cases hi:i<ks.length
   · have hp:i-1<ks.length:=by omega
     obtain⟨x,hx_x⟩:∃x,ks[i]'hi=x:=⟨_,rfl⟩
     obtain⟨y,hx_y⟩:∃x,ks[(i-1)]'hp=x:=⟨_,rfl⟩
     have hchk:=AGf hi hp hx_x hx_y
     refine AKP ?_
     refine AJ C6 5 [(8,.int .i64 ((i:Int))),(9,pk CE 64),(10,.slice ao ks.length cap),(11,.int .i64 ((ks.length:Nat))),(12,.bool true)]
       ⟨ym r5,yf r6 (fun _=>by kernel_rfl),yp (i:=2) r6 (Dd (.slice ao ks.length cap) rfl) Ae rfl (by simp[AO,Ac,hsa.1,hpo.1]),Au (Tryz.underlying34) rfl rfl trivial (oy rfl rfl) (fun _=>rfl),FG r7 (fun _=>BJ (by simp;omega)),AKW⟩ fun a17 w17 g17 De=>?_
     refine AE ?_
     refine k16 _ _ ?_
     refine Ar De rfl rfl ?_
     refine AKU ?_
     refine k15 _ _ ?_
     refine AKQ fun K18 k18=>?_
     refine BI fun Q19 x19 y19 r19 o19=>?_
     refine AKQ fun K20 k20=>?_
     replace Ae:=AC g17 Ae
     replace hr:=hr.kn g17
     replace HG:=AA HG g17
     rcases(show(i=0∧Gy x.l=true)∨(i=0∧Gy x.l=false)∨(0<i∧E6 y.o x.o=true∧Gy x.l=true)∨(0<i∧E6 y.o x.o=true∧Gy x.l=false)∨(0<i∧E6 y.o x.o=false∧Gy x.l=true)∨(0<i∧E6 y.o x.o=false∧Gy x.l=false) by
        rcases Nat.eq_zero_or_pos i with h|h<;>cases h2:Gy x.l<;>cases h3:E6 y.o x.o<;>simp[h]) with ⟨hz,hv⟩|⟨hz,hv⟩|⟨hz,hc,hv⟩|⟨hz,hc,hv⟩|⟨hz,hc,hv⟩|⟨hz,hc,hv⟩
     · have hok:((decide (i=0)||E6 y.o x.o)&&Gy x.l)=true:=by simp[hz,hv]
       refine DU De [(15,pk CE 64),(16,.slice ao ks.length cap),(17,.int .i64 ((i:Int))),(18,pk ((bO ao)) (oO ao+i*33)),(19,pk ((bO ao)) (oO ao+i*33+32)),(20,.agg #[VK.s x]),(21,.bool true),(22,.bool false),(23,.bool false),(24,.int .i64 ((i:Int))),(25,.bool false),(26,.bool false),(27,undef),(28,undef),(29,undef),(30,undef),(31,undef),(32,undef),(33,undef),(34,undef),(35,undef),(36,undef),(37,undef),(38,undef),(39,undef),(40,undef),(41,undef),(42,.bool false),(43,.bool false)]
        ⟨yf r6 (fun _=>by kernel_rfl),yp (i:=2) r6 (Dd (.slice ao ks.length cap) rfl) Ae rfl (by simp[AO,Ac,hsa.1,hpo.1]),ym r5,BH rq8 (fun w=>CU Tryz.underlying34 (by kernel_rfl) (hr.1.1) (by omega) (rfl) w),yf r6 (fun _=>by kernel_rfl),Bg r6 (fun _ g=>AY (tyT (VK.s x) rfl) (RdK.treeX (hr.kn g) rfl hi hx_x)),Al [.agg #[VK.s x]] Tryz.func87 (by kernel_rfl) rq4 ⟨(oy rfl rfl),AKW⟩ (A7 fun W g=>Ev hv ((hr.kn g).kt hi hx_x)),C3 r6 (fun _=>Bi),ym r5,Ad rq8,Af rq9 (fun _=>Bl (by simp;omega)),Ad rq8,AN r6,AN r6,AN r6,AN r6,AN r6,AN r6,AN r6,AN r6,AN r6,AN r6,AN r6,AN r6,AN r6,AN r6,AN r6,EL rfl rfl (gy rfl rfl rfl) (oy rfl rfl) rfl (fun _=>rfl),Aa rq9,AKW⟩ fun a21 w21 g21 CK=>?_
       refine k20 _ _ ?_
       refine A2 CK rfl rfl ?_
       refine AKU ?_
       refine y19 _ _ ?_
       refine k18 _ _ ?_
       refine AKP ?_
       refine AJ CK 2 [(13,.int .i64 ((i:Int))),(14,.int .i64 (((i+1:Nat):Int)))]
        ⟨ym r5,Cp r6 (fun _=>DL (by rw[Bc (by omega) (by omega)];omega)),AKW⟩ fun a22 w22 g22 Bu=>?_
       have N5:=AA g21 g22
       refine AR (v:=.int .i64 (((i+1:Nat):Int))) Bu r6 fun a23 Cl=>?_
       refine AE ?_
       replace Ae:=AC N5 Ae
       replace hr:=hr.kn N5
       replace HG:=AA HG N5
       exact⟨⟨i+1,by omega,fun k hk=>if e:k=i then (by rw[e,hchk];exact hok) else hb k (by omega),⟨Cl.1,Cl.2.1,Cl.2.2.1,(AL (AL (AL (AL Cl)))).2.2.2.2.2.2.2.1,(AL (AL (AL (AL (AL Cl))))).1,(AL (AL (AL (AL (AL Cl))))).2.1,(AL (AL (AL (AL (AL Cl))))).2.2.1,(AL (AL (AL (AL (AL Cl))))).2.2.2.1,(AL (AL (AL (AL (AL Cl))))).2.2.2.2.1,AKW⟩,HG,Ae,hr⟩,by rw[show _=_ from Cl.2.2.1,show _=_ from C6.2.2.1];simp[intOf];omega⟩
     · refine DU De [(15,pk CE 64),(16,.slice ao ks.length cap),(17,.int .i64 ((i:Int))),(18,pk ((bO ao)) (oO ao+i*33)),(19,pk ((bO ao)) (oO ao+i*33+32)),(20,.agg #[VK.s x]),(21,.bool false),(22,.bool true),(23,.bool true),(24,undef),(25,undef),(26,undef),(27,undef),(28,undef),(29,undef),(30,undef),(31,undef),(32,undef),(33,undef),(34,undef),(35,undef),(36,undef),(37,undef),(38,undef),(39,undef),(40,undef),(41,undef),(42,undef),(43,.bool true)]
        ⟨yf r6 (fun _=>by kernel_rfl),yp (i:=2) r6 (Dd (.slice ao ks.length cap) rfl) Ae rfl (by simp[AO,Ac,hsa.1,hpo.1]),ym r5,BH rq8 (fun w=>CU Tryz.underlying34 (by kernel_rfl) (hr.1.1) (by omega) (rfl) w),yf r6 (fun _=>by kernel_rfl),Bg r6 (fun _ g=>AY (tyT (VK.s x) rfl) (RdK.treeX (hr.kn g) rfl hi hx_x)),Al [.agg #[VK.s x]] Tryz.func87 (by kernel_rfl) rq4 ⟨(oy rfl rfl),AKW⟩ (A7 fun W g=>Ev hv ((hr.kn g).kt hi hx_x)),C3 r6 (fun _=>Bi),ym r5,AN r6,AN r6,AN r6,BL ⟨26,rfl,rfl,fun _ _ h=>h⟩ rfl (fun _=>rfl),BL ⟨26,rfl,rfl,fun _ _ h=>h⟩ rfl (fun _=>rfl),BL ⟨26,rfl,rfl,fun _ _ h=>h⟩ rfl (fun _=>rfl),BL ⟨26,rfl,rfl,fun _ _ h=>h⟩ rfl (fun _=>rfl),BL ⟨26,rfl,rfl,fun _ _ h=>h⟩ rfl (fun _=>rfl),BL ⟨26,rfl,rfl,fun _ _ h=>h⟩ rfl (fun _=>rfl),BL ⟨26,rfl,rfl,fun _ _ h=>h⟩ rfl (fun _=>rfl),BL ⟨26,rfl,rfl,fun _ _ h=>h⟩ rfl (fun _=>rfl),BL ⟨26,rfl,rfl,fun _ _ h=>h⟩ rfl (fun _=>rfl),BL ⟨26,rfl,rfl,fun _ _ h=>h⟩ rfl (fun _=>rfl),BL ⟨26,rfl,rfl,fun _ _ h=>h⟩ rfl (fun _=>rfl),BL ⟨26,rfl,rfl,fun _ _ h=>h⟩ rfl (fun _=>rfl),BL ⟨26,rfl,rfl,fun _ _ h=>h⟩ rfl (fun _=>rfl),BL ⟨26,rfl,rfl,fun _ _ h=>h⟩ rfl (fun _=>rfl),BL ⟨26,rfl,rfl,fun _ _ h=>h⟩ rfl (fun _=>rfl),AN r6,A1 r7,AKW⟩ fun a24 w24 g24 Du=>?_
       refine k20 _ _ ?_
       refine Ar Du rfl rfl ?_
       refine AKQ fun K25 k25=>?_
       refine AKP ?_
       refine AR (v:=.bool false) Du r6 fun a26 Cy=>?_
       refine AE ?_
       refine k25 _ _ ?_
       replace Ae:=AC g24 Ae
       replace hr:=hr.kn g24
       replace HG:=AA HG g24
       refine AKT ?_
       repeat refine AK ?_
       refine r19 _ _ ?_
       repeat refine AK ?_
       refine r13 _ _ ?_
       repeat refine AK ?_
       refine Aw (fn:=Tryz.f40) Cy (BC (p:=2) Tryz.results40 Cy rfl rfl) ?_
       exact⟨D0 ((Ih (i:=i) (by rw[hmap];exact hi) (by rw[hchk];simp[hv])).symm),HG⟩
     · have hok:((decide (i=0)||E6 y.o x.o)&&Gy x.l)=true:=by simp[hz,hv,hc]
       refine DU De [(15,pk CE 64),(16,.slice ao ks.length cap),(17,.int .i64 ((i:Int))),(18,pk ((bO ao)) (oO ao+i*33)),(19,pk ((bO ao)) (oO ao+i*33+32)),(20,.agg #[VK.s x]),(21,.bool true),(22,.bool false),(23,.bool false),(24,.int .i64 ((i:Int))),(25,.bool true),(26,.bool true),(27,pk CE 64),(28,.slice ao ks.length cap),(29,.int .i64 ((i:Int))),(30,.int .i64 (((i-1:Nat):Int))),(31,pk ((bO ao)) (oO ao+(i-1)*33)),(32,pk ((bO ao)) (oO ao+(i-1)*33)),(33,AQ y.o),(34,pk CE 64),(35,.slice ao ks.length cap),(36,.int .i64 ((i:Int))),(37,pk ((bO ao)) (oO ao+i*33)),(38,pk ((bO ao)) (oO ao+i*33)),(39,AQ x.o),(40,.bool true),(41,.bool false),(42,.bool false),(43,.bool false)]
        ⟨yf r6 (fun _=>by kernel_rfl),yp (i:=2) r6 (Dd (.slice ao ks.length cap) rfl) Ae rfl (by simp[AO,Ac,hsa.1,hpo.1]),ym r5,BH rq8 (fun w=>CU Tryz.underlying34 (by kernel_rfl) (hr.1.1) (by omega) (rfl) w),yf r6 (fun _=>by kernel_rfl),Bg r6 (fun _ g=>AY (tyT (VK.s x) rfl) (RdK.treeX (hr.kn g) rfl hi hx_x)),Al [.agg #[VK.s x]] Tryz.func87 (by kernel_rfl) rq4 ⟨(oy rfl rfl),AKW⟩ (A7 fun W g=>Ev hv ((hr.kn g).kt hi hx_x)),C3 r6 (fun _=>Bi),ym r5,Ad rq8,Af rq9 (fun _=>Bl (by simp;omega)),Ad rq8,Aq rq9 (fun _=>by kernel_rfl),Ai rq9 (fun _ g=>AY (Dd (.slice ao ks.length cap) rfl) (Ak (L:=[bv sa,bv po,[.slice ao ks.length cap]]) (i:=2) (AF g Ae (by simp)) rfl (by simp[AO,Ac,hsa.1,hpo.1]))),Ad rq8,Af rq9 (fun _=>Ix (by rw[Bc (by omega) (by omega)];omega)),Dj rfl rfl (gy rfl rfl rfl) (oy rfl rfl) (oy rfl rfl) (fun w=>CU Tryz.underlying34 (by kernel_rfl) (hr.1.1) (by omega) (rfl) w) (fun _=>rfl),Aq rq9 (fun _=>by kernel_rfl),Ai rq9 (fun _ g=>AY (Bb y.o y.ho.1) (RdK.ownerX (hr.kn g) rfl hp hx_y)),Aq rq9 (fun _=>by kernel_rfl),Ai rq9 (fun _ g=>AY (Dd (.slice ao ks.length cap) rfl) (Ak (L:=[bv sa,bv po,[.slice ao ks.length cap]]) (i:=2) (AF g Ae (by simp)) rfl (by simp[AO,Ac,hsa.1,hpo.1]))),Ad rq8,Dj rfl rfl (gy rfl rfl rfl) (oy rfl rfl) (oy rfl rfl) (fun w=>CU Tryz.underlying34 (by kernel_rfl) (hr.1.1) (by omega) (rfl) w) (fun _=>rfl),Aq rq9 (fun _=>by kernel_rfl),Ai rq9 (fun _ g=>AY (Bb x.o x.ho.1) (RdK.ownerX (hr.kn g) rfl hi hx_x)),B8 [AQ y.o,AQ x.o] Tryz.func86 (by kernel_rfl) r7 ⟨(oy rfl rfl),(oy rfl rfl),AKW⟩ (A7 fun W g=>Jf hc y.ho x.ho W),IA rfl rfl (gy rfl rfl rfl) (oy rfl rfl) (fun _=>Bi) (fun _=>rfl),EL rfl rfl (gy rfl rfl rfl) (oy rfl rfl) (oy rfl rfl) (fun _=>rfl),Aa rq9,AKW⟩ fun a27 w27 g27 F6=>?_
       refine k20 _ _ ?_
       refine A2 F6 rfl rfl ?_
       refine AKU ?_
       refine y19 _ _ ?_
       refine k18 _ _ ?_
       refine AKP ?_
       refine AJ F6 2 [(13,.int .i64 ((i:Int))),(14,.int .i64 (((i+1:Nat):Int)))]
        ⟨ym r5,Cp r6 (fun _=>DL (by rw[Bc (by omega) (by omega)];omega)),AKW⟩ fun a28 w28 g28 GI=>?_
       have EW:=AA g27 g28
       refine AR (v:=.int .i64 (((i+1:Nat):Int))) GI r6 fun a29 CY=>?_
       refine AE ?_
       replace Ae:=AC EW Ae
       replace hr:=hr.kn EW
       replace HG:=AA HG EW
       exact⟨⟨i+1,by omega,fun k hk=>if e:k=i then (by rw[e,hchk];exact hok) else hb k (by omega),⟨CY.1,CY.2.1,CY.2.2.1,(AL (AL (AL (AL CY)))).2.2.2.2.2.2.2.1,(AL (AL (AL (AL (AL CY))))).1,(AL (AL (AL (AL (AL CY))))).2.1,(AL (AL (AL (AL (AL CY))))).2.2.1,(AL (AL (AL (AL (AL CY))))).2.2.2.1,(AL (AL (AL (AL (AL CY))))).2.2.2.2.1,AKW⟩,HG,Ae,hr⟩,by rw[show _=_ from CY.2.2.1,show _=_ from C6.2.2.1];simp[intOf];omega⟩
     · refine DU De [(15,pk CE 64),(16,.slice ao ks.length cap),(17,.int .i64 ((i:Int))),(18,pk ((bO ao)) (oO ao+i*33)),(19,pk ((bO ao)) (oO ao+i*33+32)),(20,.agg #[VK.s x]),(21,.bool false),(22,.bool true),(23,.bool true),(24,undef),(25,undef),(26,undef),(27,undef),(28,undef),(29,undef),(30,undef),(31,undef),(32,undef),(33,undef),(34,undef),(35,undef),(36,undef),(37,undef),(38,undef),(39,undef),(40,undef),(41,undef),(42,undef),(43,.bool true)]
        ⟨yf r6 (fun _=>by kernel_rfl),yp (i:=2) r6 (Dd (.slice ao ks.length cap) rfl) Ae rfl (by simp[AO,Ac,hsa.1,hpo.1]),ym r5,BH rq8 (fun w=>CU Tryz.underlying34 (by kernel_rfl) (hr.1.1) (by omega) (rfl) w),yf r6 (fun _=>by kernel_rfl),Bg r6 (fun _ g=>AY (tyT (VK.s x) rfl) (RdK.treeX (hr.kn g) rfl hi hx_x)),Al [.agg #[VK.s x]] Tryz.func87 (by kernel_rfl) rq4 ⟨(oy rfl rfl),AKW⟩ (A7 fun W g=>Ev hv ((hr.kn g).kt hi hx_x)),C3 r6 (fun _=>Bi),ym r5,AN r6,AN r6,AN r6,BL ⟨26,rfl,rfl,fun _ _ h=>h⟩ rfl (fun _=>rfl),BL ⟨26,rfl,rfl,fun _ _ h=>h⟩ rfl (fun _=>rfl),BL ⟨26,rfl,rfl,fun _ _ h=>h⟩ rfl (fun _=>rfl),BL ⟨26,rfl,rfl,fun _ _ h=>h⟩ rfl (fun _=>rfl),BL ⟨26,rfl,rfl,fun _ _ h=>h⟩ rfl (fun _=>rfl),BL ⟨26,rfl,rfl,fun _ _ h=>h⟩ rfl (fun _=>rfl),BL ⟨26,rfl,rfl,fun _ _ h=>h⟩ rfl (fun _=>rfl),BL ⟨26,rfl,rfl,fun _ _ h=>h⟩ rfl (fun _=>rfl),BL ⟨26,rfl,rfl,fun _ _ h=>h⟩ rfl (fun _=>rfl),BL ⟨26,rfl,rfl,fun _ _ h=>h⟩ rfl (fun _=>rfl),BL ⟨26,rfl,rfl,fun _ _ h=>h⟩ rfl (fun _=>rfl),BL ⟨26,rfl,rfl,fun _ _ h=>h⟩ rfl (fun _=>rfl),BL ⟨26,rfl,rfl,fun _ _ h=>h⟩ rfl (fun _=>rfl),BL ⟨26,rfl,rfl,fun _ _ h=>h⟩ rfl (fun _=>rfl),BL ⟨26,rfl,rfl,fun _ _ h=>h⟩ rfl (fun _=>rfl),AN r6,A1 r7,AKW⟩ fun a30 w30 g30 Dl=>?_
       refine k20 _ _ ?_
       refine Ar Dl rfl rfl ?_
       refine AKQ fun K31 k31=>?_
       refine AKP ?_
       refine AR (v:=.bool false) Dl r6 fun a32 Dm=>?_
       refine AE ?_
       refine k31 _ _ ?_
       replace Ae:=AC g30 Ae
       replace hr:=hr.kn g30
       replace HG:=AA HG g30
       refine AKT ?_
       repeat refine AK ?_
       refine r19 _ _ ?_
       repeat refine AK ?_
       refine r13 _ _ ?_
       repeat refine AK ?_
       refine Aw (fn:=Tryz.f40) Dm (BC (p:=2) Tryz.results40 Dm rfl rfl) ?_
       exact⟨D0 ((Ih (i:=i) (by rw[hmap];exact hi) (by rw[hchk];simp[hv,hc,Nat.ne_of_gt hz])).symm),HG⟩
     · refine DU De [(15,pk CE 64),(16,.slice ao ks.length cap),(17,.int .i64 ((i:Int))),(18,pk ((bO ao)) (oO ao+i*33)),(19,pk ((bO ao)) (oO ao+i*33+32)),(20,.agg #[VK.s x]),(21,.bool true),(22,.bool false),(23,.bool false),(24,.int .i64 ((i:Int))),(25,.bool true),(26,.bool true),(27,pk CE 64),(28,.slice ao ks.length cap),(29,.int .i64 ((i:Int))),(30,.int .i64 (((i-1:Nat):Int))),(31,pk ((bO ao)) (oO ao+(i-1)*33)),(32,pk ((bO ao)) (oO ao+(i-1)*33)),(33,AQ y.o),(34,pk CE 64),(35,.slice ao ks.length cap),(36,.int .i64 ((i:Int))),(37,pk ((bO ao)) (oO ao+i*33)),(38,pk ((bO ao)) (oO ao+i*33)),(39,AQ x.o),(40,.bool false),(41,.bool true),(42,.bool true),(43,.bool true)]
        ⟨yf r6 (fun _=>by kernel_rfl),yp (i:=2) r6 (Dd (.slice ao ks.length cap) rfl) Ae rfl (by simp[AO,Ac,hsa.1,hpo.1]),ym r5,BH rq8 (fun w=>CU Tryz.underlying34 (by kernel_rfl) (hr.1.1) (by omega) (rfl) w),yf r6 (fun _=>by kernel_rfl),Bg r6 (fun _ g=>AY (tyT (VK.s x) rfl) (RdK.treeX (hr.kn g) rfl hi hx_x)),Al [.agg #[VK.s x]] Tryz.func87 (by kernel_rfl) rq4 ⟨(oy rfl rfl),AKW⟩ (A7 fun W g=>Ev hv ((hr.kn g).kt hi hx_x)),C3 r6 (fun _=>Bi),ym r5,Ad rq8,Af rq9 (fun _=>Bl (by simp;omega)),Ad rq8,Aq rq9 (fun _=>by kernel_rfl),Ai rq9 (fun _ g=>AY (Dd (.slice ao ks.length cap) rfl) (Ak (L:=[bv sa,bv po,[.slice ao ks.length cap]]) (i:=2) (AF g Ae (by simp)) rfl (by simp[AO,Ac,hsa.1,hpo.1]))),Ad rq8,Af rq9 (fun _=>Ix (by rw[Bc (by omega) (by omega)];omega)),Dj rfl rfl (gy rfl rfl rfl) (oy rfl rfl) (oy rfl rfl) (fun w=>CU Tryz.underlying34 (by kernel_rfl) (hr.1.1) (by omega) (rfl) w) (fun _=>rfl),Aq rq9 (fun _=>by kernel_rfl),Ai rq9 (fun _ g=>AY (Bb y.o y.ho.1) (RdK.ownerX (hr.kn g) rfl hp hx_y)),Aq rq9 (fun _=>by kernel_rfl),Ai rq9 (fun _ g=>AY (Dd (.slice ao ks.length cap) rfl) (Ak (L:=[bv sa,bv po,[.slice ao ks.length cap]]) (i:=2) (AF g Ae (by simp)) rfl (by simp[AO,Ac,hsa.1,hpo.1]))),Ad rq8,Dj rfl rfl (gy rfl rfl rfl) (oy rfl rfl) (oy rfl rfl) (fun w=>CU Tryz.underlying34 (by kernel_rfl) (hr.1.1) (by omega) (rfl) w) (fun _=>rfl),Aq rq9 (fun _=>by kernel_rfl),Ai rq9 (fun _ g=>AY (Bb x.o x.ho.1) (RdK.ownerX (hr.kn g) rfl hi hx_x)),B8 [AQ y.o,AQ x.o] Tryz.func86 (by kernel_rfl) r7 ⟨(oy rfl rfl),(oy rfl rfl),AKW⟩ (A7 fun W g=>Jf hc y.ho x.ho W),IA rfl rfl (gy rfl rfl rfl) (oy rfl rfl) (fun _=>Bi) (fun _=>rfl),EL rfl rfl (gy rfl rfl rfl) (oy rfl rfl) (oy rfl rfl) (fun _=>rfl),Aa rq9,AKW⟩ fun a33 w33 g33 Eu=>?_
       refine k20 _ _ ?_
       refine Ar Eu rfl rfl ?_
       refine AKQ fun K34 k34=>?_
       refine AKP ?_
       refine AR (v:=.bool false) Eu r6 fun a35 Iz=>?_
       refine AE ?_
       refine k34 _ _ ?_
       replace Ae:=AC g33 Ae
       replace hr:=hr.kn g33
       replace HG:=AA HG g33
       refine AKT ?_
       repeat refine AK ?_
       refine r19 _ _ ?_
       repeat refine AK ?_
       refine r13 _ _ ?_
       repeat refine AK ?_
       refine Aw (fn:=Tryz.f40) Iz (BC (p:=2) Tryz.results40 Iz rfl rfl) ?_
       exact⟨D0 ((Ih (i:=i) (by rw[hmap];exact hi) (by rw[hchk];simp[hv,hc,Nat.ne_of_gt hz])).symm),HG⟩
     · refine DU De [(15,pk CE 64),(16,.slice ao ks.length cap),(17,.int .i64 ((i:Int))),(18,pk ((bO ao)) (oO ao+i*33)),(19,pk ((bO ao)) (oO ao+i*33+32)),(20,.agg #[VK.s x]),(21,.bool false),(22,.bool true),(23,.bool true),(24,undef),(25,undef),(26,undef),(27,undef),(28,undef),(29,undef),(30,undef),(31,undef),(32,undef),(33,undef),(34,undef),(35,undef),(36,undef),(37,undef),(38,undef),(39,undef),(40,undef),(41,undef),(42,undef),(43,.bool true)]
        ⟨yf r6 (fun _=>by kernel_rfl),yp (i:=2) r6 (Dd (.slice ao ks.length cap) rfl) Ae rfl (by simp[AO,Ac,hsa.1,hpo.1]),ym r5,BH rq8 (fun w=>CU Tryz.underlying34 (by kernel_rfl) (hr.1.1) (by omega) (rfl) w),yf r6 (fun _=>by kernel_rfl),Bg r6 (fun _ g=>AY (tyT (VK.s x) rfl) (RdK.treeX (hr.kn g) rfl hi hx_x)),Al [.agg #[VK.s x]] Tryz.func87 (by kernel_rfl) rq4 ⟨(oy rfl rfl),AKW⟩ (A7 fun W g=>Ev hv ((hr.kn g).kt hi hx_x)),C3 r6 (fun _=>Bi),ym r5,AN r6,AN r6,AN r6,BL ⟨26,rfl,rfl,fun _ _ h=>h⟩ rfl (fun _=>rfl),BL ⟨26,rfl,rfl,fun _ _ h=>h⟩ rfl (fun _=>rfl),BL ⟨26,rfl,rfl,fun _ _ h=>h⟩ rfl (fun _=>rfl),BL ⟨26,rfl,rfl,fun _ _ h=>h⟩ rfl (fun _=>rfl),BL ⟨26,rfl,rfl,fun _ _ h=>h⟩ rfl (fun _=>rfl),BL ⟨26,rfl,rfl,fun _ _ h=>h⟩ rfl (fun _=>rfl),BL ⟨26,rfl,rfl,fun _ _ h=>h⟩ rfl (fun _=>rfl),BL ⟨26,rfl,rfl,fun _ _ h=>h⟩ rfl (fun _=>rfl),BL ⟨26,rfl,rfl,fun _ _ h=>h⟩ rfl (fun _=>rfl),BL ⟨26,rfl,rfl,fun _ _ h=>h⟩ rfl (fun _=>rfl),BL ⟨26,rfl,rfl,fun _ _ h=>h⟩ rfl (fun _=>rfl),BL ⟨26,rfl,rfl,fun _ _ h=>h⟩ rfl (fun _=>rfl),BL ⟨26,rfl,rfl,fun _ _ h=>h⟩ rfl (fun _=>rfl),BL ⟨26,rfl,rfl,fun _ _ h=>h⟩ rfl (fun _=>rfl),BL ⟨26,rfl,rfl,fun _ _ h=>h⟩ rfl (fun _=>rfl),AN r6,A1 r7,AKW⟩ fun a36 w36 g36 Ep=>?_
       refine k20 _ _ ?_
       refine Ar Ep rfl rfl ?_
       refine AKQ fun K37 k37=>?_
       refine AKP ?_
       refine AR (v:=.bool false) Ep r6 fun a38 N6=>?_
       refine AE ?_
       refine k37 _ _ ?_
       replace Ae:=AC g36 Ae
       replace HG:=AA HG g36
       refine AKT ?_
       repeat refine AK ?_
       refine r19 _ _ ?_
       repeat refine AK ?_
       refine r13 _ _ ?_
       repeat refine AK ?_
       refine Aw (fn:=Tryz.f40) N6 (BC (p:=2) Tryz.results40 N6 rfl rfl) ?_
       exact⟨D0 ((Ih (i:=i) (by rw[hmap];exact hi) (by rw[hchk];simp[hv,hc,Nat.ne_of_gt hz])).symm),HG⟩
   · refine AKP ?_
     refine AJ C6 5 [(8,.int .i64 ((i:Int))),(9,pk CE 64),(10,.slice ao ks.length cap),(11,.int .i64 ((ks.length:Nat))),(12,.bool false)]
       ⟨ym r5,yf r6 (fun _=>by kernel_rfl),yp (i:=2) r6 (Dd (.slice ao ks.length cap) rfl) Ae rfl (by simp[AO,Ac,hsa.1,hpo.1]),Au (Tryz.underlying34) rfl rfl trivial (oy rfl rfl) (fun _=>rfl),FG r7 (fun _=>BJ (by simp;omega)),AKW⟩ fun a39 w39 g39 LP=>?_
     refine AE ?_
     refine k16 _ _ ?_
     refine A2 LP rfl rfl ?_
     refine wp_exit ?_
     repeat refine CT ?_
     refine x13 _ _ ?_
     refine k10 _ _ ?_
     refine AKQ fun K40 k40=>?_
     refine AKP ?_
     refine AR (v:=.bool true) LP r6 fun a41 Qb=>?_
     refine AE ?_
     refine k40 _ _ ?_
     replace HG:=AA HG g39
     refine AKT ?_
     repeat refine AK ?_
     refine Aw (fn:=Tryz.f40) Qb (BC (p:=2) Tryz.results40 Qb rfl rfl) ?_
     exact⟨D0 ((Vv (by omega) fun k hk=>hb k (by omega)).symm),HG⟩
end Go.Proofs.YtbfjfnbcmojpiaaGreat
