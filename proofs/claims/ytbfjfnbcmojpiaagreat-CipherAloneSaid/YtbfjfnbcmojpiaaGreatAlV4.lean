import Derived.Test.YtbfjfnbcmojpiaaGreatAlV3
set_option linter.unusedSimpArgs false
set_option linter.unusedVariables false
set_option maxRecDepth 100000
set_option maxHeartbeats 4000000
namespace Go.Proofs.YtbfjfnbcmojpiaaGreat
open Go.RowKit Go.Shelf
theorem Bn {P:Program} {f:Nat} {fn:Func} {c:Code} (hf:P.funcs[f]?=some fn) (hname:(fn.name == "runtime.NumGoroutine")=false) (hb:fn.body=some c) (cap:Array Value) (w:World) :
  (invoke (.fn (.func f) cap) #[]).run P w=.ok (.enter f cap) w:=by
 have h1:fn.name≠"runtime.NumGoroutine":=by simpa using hname
 simp[invoke,callFunc,hf,h1,hb]
theorem OA (w:World):CallsD Tryz.prog 65 #[] .returning w fun e u' w'=>e=.returned (.tuple #[])∧u'=.returning∧w'=w:=by
 refine callsD_of_wpS Tryz.func65 rfl fun c₀ cs hu=>?_
 apply wpS_region
 simp[wpOpsS,go_sem,recoverD,hu,Tryz.ntmps65]
 cases c₀
 simp_all [bodyPostS,results,Tryz.results65]
theorem C4 (w:World):CallsD Tryz.prog 95 #[] .returning w fun e u' w'=>e=.returned (.tuple #[])∧u'=.returning∧w'=w:=by
 refine callsD_of_wpS Tryz.func95 rfl fun c₀ cs hu=>?_
 apply wpS_region
 simp[wpOpsS,go_sem,recoverD,hu,Tryz.ntmps95]
 cases c₀
 simp_all [bodyPostS,results,Tryz.results95]
theorem F7 (p q:Value) (w:World):CallsD Tryz.prog 81 #[p,q] .returning w fun e u' w'=>e=.returned (.tuple #[])∧u'=.returning∧w'=w:=by
 refine callsD_of_wpS Tryz.func81 rfl fun c₀ cs hu=>?_
 apply wpS_seq
 apply wpS_region
 simp[wpOpsS,go_sem,recoverD,hu,Tryz.ntmps81,Exit.thenS]
 refine wpS_cond (t:=false) (by simp[Act.eval,Array.replicate]) ?_
 simp only[Bool.false_eq_true,if_false]
 refine wpS_of_wp (AL3 ?_)
 cases c₀
 simp_all [bodyPostS,results,Tryz.results81]
theorem Iw (p q:Value) (w:World):CallsD Tryz.prog 77 #[p,q] .returning w fun e u' w'=>e=.returned (.tuple #[])∧u'=.returning∧w'=w:=by
 refine callsD_of_wpS Tryz.func77 rfl fun c₀ cs hu=>?_
 apply wpS_seq
 apply wpS_region
 simp[wpOpsS,go_sem,recoverD,hu,Tryz.ntmps77,Exit.thenS]
 refine wpS_cond (t:=false) (by simp[Act.eval,Array.replicate]) ?_
 simp only[Bool.false_eq_true,if_false]
 refine wpS_of_wp (AL3 ?_)
 cases c₀
 simp_all [bodyPostS,results,Tryz.results77]
theorem FZ (p q:Value) (w:World):CallsD Tryz.prog 74 #[p,q] .returning w fun e u' w'=>e=.returned (.tuple #[])∧u'=.returning∧w'=w:=by
 refine callsD_of_wpS Tryz.func74 rfl fun c₀ cs hu=>?_
 apply wpS_seq
 apply wpS_region
 simp[wpOpsS,go_sem,recoverD,hu,Tryz.ntmps74,Exit.thenS]
 refine wpS_cond (t:=false) (by simp[Act.eval,Array.replicate]) ?_
 simp only[Bool.false_eq_true,if_false]
 refine wpS_of_wp (AL3 ?_)
 cases c₀
 simp_all [bodyPostS,results,Tryz.results74]
theorem Ix {w:World} {s:Value} {l:List Nd} {b:Bool} (hb:GO l=b) (h:RdT w s l):Calls Tryz.prog 97 #[.agg #[s]] w fun e w'=>e=.returned (.bool b)∧w.grownBy w' none:=hb▸Zl h
theorem FI {w:World} {s:Value} {l:List Nd} {b:Bool} (hb:GO l=b) (h:RdT w s l):Calls Tryz.prog 87 #[.agg #[s]] w fun e w'=>e=.returned (.bool b)∧w.grownBy w' none:=hb▸XV h
theorem Hd {a b:Bool} (h:a=b):Ending.returned (.bool a)=Ending.returned (.bool b):=by rw[h]
theorem AJ8 {a b:Int} (h:a=b):Ending.returned (.int .i64 a)=Ending.returned (.int .i64 b):=by rw[h]
theorem RdK.kt {w:World} {v:Value} {ks:List VK} (h:RdK w v ks) {j:Nat} (hj:j<ks.length) {x:VK} (hx:ks[j]=x):RdT w x.s x.l:=h.2 x (hx▸List.getElem_mem hj)
theorem AH0 {ks:List VK} {i:Nat} {x y:VK} (hi:i<ks.length) (hp:i-1<ks.length) (hx:ks[i]=x) (hy:ks[i-1]=y):chk (ks.map VK.p) i=((decide (i=0)||Eg y.o x.o)&&GO x.l):=by
 unfold chk
 rw[N8 hi,N8 hp,VL hi,hx,hy]
theorem ACe (ks:List VK) (ao:Option Addr) (cap:Nat) (sa po:List Nat) (hsa:Dg sa) (hpo:Dg po) (o:List Nat) (ho:Dg o) (w:World) (hr:RdK w (.slice ao ks.length cap) ks) (hs:Srt (ks.map VK.p)) (h64:ks.length≤64) :
  Calls Tryz.prog 71 #[Am sa po (.slice ao ks.length cap),AP o] w fun e w'=>e=.returned (.tuple #[.int .i64 (pos (ks.map VK.p) o),.bool (Hv (ks.map VK.p) o)])∧w.grownBy w' none:=by
 refine BZ Tryz.func71 rfl Tryz.ntmps71 rfl fun a0 sv0=>?_
 have HG:=World.grownBy.refl w none
 replace sv0:Sv 12 [] [(0,Am sa po (.slice ao ks.length cap)),(1,AP o)] a0:=sv0
 refine ALz fun K1 k1=>?_
 refine ALy ?_
 refine Bj sv0 r6 (Bb hsa hpo (.slice ao ks.length cap) rfl) fun a2 w2 Ci Dh g2 z2 AK sv2=>?_
 refine Bj sv2 r6 (B6 o ho.1) fun a3 w3 CX Fd g3 z3 AN sv3=>?_
 replace AK:=AC g3 AK
 replace hr:=(hr.kn g2).kn g3
 refine AY (v:=.int .i64 0) sv3 r6 fun a4 sv4=>?_
 refine AY (v:=.bool false) sv4 r6 fun a5 sv5=>?_
 refine AE ?_
 refine k1 _ _ ?_
 refine ALz fun K6 k6=>?_
 refine ALy ?_
 refine AJ sv5 6 [(6,pk Ci 64),(7,.slice ao ks.length cap),(8,AP o),(9,.tuple #[.int .i64 ((pos (ks.map VK.p) o:Int)),.bool (Hv (ks.map VK.p) o)]),(10,.int .i64 ((pos (ks.map VK.p) o:Int))),(11,.bool (Hv (ks.map VK.p) o))]
  ⟨yf r6 (fun _=>by kernel_rfl),yp (i:=2) r6 (EP (.slice ao ks.length cap) rfl) AK rfl (by simp[AI,AV,hsa.1,hpo.1]),yl r6 (B6 o ho.1) AN,Ae [.slice ao ks.length cap,AP o,.func (.func 96) #[] #[]] Tryz.func113 (by kernel_rfl) rq4 ⟨(oy rfl rfl),(oy rfl rfl),rfl,AL5⟩ (Ap fun W g=>VN ks ao cap o ho W (hr.kn g) hs h64),BF rq4 (fun _ _ h=>⟨_,_,h,rfl,rfl⟩),BF rq4 (fun _ _ h=>⟨_,_,h,rfl,rfl⟩),AL5⟩ fun a7 w7 g7 sv7=>?_
 refine AY (v:=.int .i64 ((pos (ks.map VK.p) o:Int))) sv7 r6 fun a8 sv8=>?_
 refine AY (v:=.bool (Hv (ks.map VK.p) o)) sv8 r6 fun a9 sv9=>?_
 have Cb:Sv _ _ [_,_,_,_] _:=sv9.dl [6,7,8,9,10,11,3,2]
 refine AE ?_
 refine k6 _ _ ?_
 replace HG:=AA (AA (AA HG g2) g3) g7
 refine AL2 ?_
 repeat refine AL ?_
 refine BI (fn:=Tryz.f71) Cb (Qt (p:=4) (q:=5) Tryz.results71 Cb rfl rfl rfl rfl) ?_
 exact⟨rfl,HG⟩
theorem AGp (ks:List VK) (ao:Option Addr) (cap:Nat) (sa po:List Nat) (hsa:Dg sa) (hpo:Dg po) (o:List Nat) (ho:Dg o) (w:World) (hr:RdK w (.slice ao ks.length cap) ks) (hs:Srt (ks.map VK.p)) :
   Calls Tryz.prog 84 #[Am sa po (.slice ao ks.length cap),AP o] w fun e w'=>e=.returned (.int .i64 (atV (ks.map VK.p) o))∧w.grownBy w' none:=by
 have hlen:=hr.len
 have hmap:(ks.map VK.p).length=ks.length:=List.length_map _
 refine BZ Tryz.func84 rfl Tryz.ntmps84 rfl fun a0 sv0=>?_
 have HG:=World.grownBy.refl w none
 replace sv0:Sv 22 [] [(0,Am sa po (.slice ao ks.length cap)),(1,AP o)] a0:=sv0
 refine ALz fun K1 k1=>?_
 refine ALy ?_
 refine Bj sv0 r6 (Bb hsa hpo (.slice ao ks.length cap) rfl) fun a2 w2 Ci Dh g2 z2 AK sv2=>?_
 refine Bj sv2 r6 (B6 o ho.1) fun a3 w3 CX Fd g3 z3 AN sv3=>?_
 replace AK:=AC g3 AK
 replace hr:=(hr.kn g2).kn g3
 replace HG:=AA (AA HG g2) g3
 refine AY (v:=.int .i64 0) sv3 r6 fun a4 sv4=>?_
 refine AE ?_
 refine k1 _ _ ?_
 refine ALz fun K5 k5=>?_
 refine ALz fun K6 k6=>?_
 refine ALy ?_
 refine AY (v:=.int .i64 0) sv4 r6 fun a7 sv7=>?_
 refine AE ?_
 refine k6 _ _ ?_
 refine BM fun Q8 x8 y8 r8 o8=>?_
 refine wp_loop (fun a w'=>∃(i:Nat),(i≤ks.length)∧(∀k,k<i→od (ks.map VK.p) k≠o)∧Sv 22 [] [(5,.int .i64 ((i:Int))),(3,pt CX),(2,pt Ci),(0,Am sa po (.slice ao ks.length cap)),(1,AP o)] a∧w.grownBy w' none∧w'.heap[Ci]?=some (.cells ([bv sa,bv po,[.slice ao ks.length cap]].flatten).toArray 36 (0,0))∧w'.heap[CX]?=some (.cells (bv o).toArray 23 (0,0))∧RdK w' (.slice ao ks.length cap) ks) (fun a _=>(ks.length-intOf (a.tmps.getD 5 undef)).toNat) ⟨0,Nat.zero_le _,fun k hk=>by omega,⟨sv7.1,sv7.2.1,sv7.2.2.1,sv7.2.2.2.2.1,sv7.2.2.2.2.2.1,sv7.2.2.2.2.2.2.1,sv7.2.2.2.2.2.2.2.1,AL5⟩,HG,AK,AN,hr⟩ fun a9 w9 hI9=>?_
 clear AK
 clear AN
 clear hr
 clear HG
 obtain⟨i,hin,hb,sv9,HG,AK,AN,hr⟩:=hI9
 refine ALz fun K10 k10=>?_
 refine ALz fun K11 k11=>?_
 by_cases hi:i<ks.length
 · obtain⟨x,hx_x⟩:∃x,ks[i]'hi=x:=⟨_,rfl⟩
   have hod:od (ks.map VK.p) i=x.o:=by rw[N8 hi,hx_x]
   refine ALy ?_
   refine AJ sv9 5 [(6,.int .i64 ((i:Int))),(7,pk Ci 64),(8,.slice ao ks.length cap),(9,.int .i64 ((ks.length:Nat))),(10,.bool true)]
     ⟨ym r5,yf r6 (fun _=>by kernel_rfl),yp (i:=2) r6 (EP (.slice ao ks.length cap) rfl) AK rfl (by simp[AI,AV,hsa.1,hpo.1]),Bv (Tryz.underlying34) rfl rfl trivial (oy rfl rfl) (fun _=>rfl),Il r7 (fun _=>Bo (by simp;omega)),AL5⟩ fun a12 w12 g12 DL=>?_
   refine AE ?_
   refine k11 _ _ ?_
   refine Aw DL rfl rfl ?_
   refine AL3 ?_
   refine k10 _ _ ?_
   refine ALz fun K13 k13=>?_
   refine BM fun Q14 x14 y14 r14 o14=>?_
   refine ALz fun K15 k15=>?_
   replace AK:=AC g12 AK
   replace AN:=AC g12 AN
   replace hr:=hr.kn g12
   replace HG:=AA HG g12
   by_cases heq:x.o=o
   · have hyes:=NA hs (by omega) (hod.trans heq)
     refine DM DL [(13,pk Ci 64),(14,.slice ao ks.length cap),(15,.int .i64 ((i:Int))),(16,pk ((bO ao)) (oO ao+i*33)),(17,pk ((bO ao)) (oO ao+i*33)),(18,AP x.o),(19,AP o),(20,.bool true)]
      ⟨yf r6 (fun _=>by kernel_rfl),yp (i:=2) r6 (EP (.slice ao ks.length cap) rfl) AK rfl (by simp[AI,AV,hsa.1,hpo.1]),ym r5,BA rq8 (fun w=>CU Tryz.underlying34 (by kernel_rfl) (hr.1.1) (by omega) (rfl) w),yf r6 (fun _=>by kernel_rfl),Bu r6 (fun _ g=>Ab (B6 x.o x.ho.1) (RdK.ownerX (hr.kn g) rfl hi hx_x)),yl r6 (B6 o ho.1) AN,Il r7 (fun _=>(Li x.ho ho _ _ _).1.trans (by rw[decide_eq_true (heq)])),AL5⟩ fun a16 w16 g16 DJ=>?_
     refine k15 _ _ ?_
     refine Aw DJ rfl rfl ?_
     refine ALz fun K17 k17=>?_
     refine ALy ?_
     refine AJ DJ 1 [(21,.int .i64 ((i:Int)))]
      ⟨ym r5,AL5⟩ fun a18 w18 g18 CZ=>?_
     have AGq:=AA g16 g18
     refine AY (v:=.int .i64 ((i:Int))) CZ r6 fun a19 EQ=>?_
     refine AE ?_
     refine k17 _ _ ?_
     replace AK:=AC AGq AK
     replace AN:=AC AGq AN
     replace hr:=hr.kn AGq
     replace HG:=AA HG AGq
     refine AL2 ?_
     repeat refine AL ?_
     refine r14 _ _ ?_
     repeat refine AL ?_
     refine r8 _ _ ?_
     repeat refine AL ?_
     refine BI (fn:=Tryz.f84) EQ (BC (p:=4) Tryz.results84 EQ rfl rfl) ?_
     exact⟨AJ8 (by unfold atV;rw[hyes.1,hyes.2];rfl),HG⟩
   · have hne:=heq
     refine DM DL [(13,pk Ci 64),(14,.slice ao ks.length cap),(15,.int .i64 ((i:Int))),(16,pk ((bO ao)) (oO ao+i*33)),(17,pk ((bO ao)) (oO ao+i*33)),(18,AP x.o),(19,AP o),(20,.bool false)]
      ⟨yf r6 (fun _=>by kernel_rfl),yp (i:=2) r6 (EP (.slice ao ks.length cap) rfl) AK rfl (by simp[AI,AV,hsa.1,hpo.1]),ym r5,BA rq8 (fun w=>CU Tryz.underlying34 (by kernel_rfl) (hr.1.1) (by omega) (rfl) w),yf r6 (fun _=>by kernel_rfl),Bu r6 (fun _ g=>Ab (B6 x.o x.ho.1) (RdK.ownerX (hr.kn g) rfl hi hx_x)),yl r6 (B6 o ho.1) AN,Il r7 (fun _=>(Li x.ho ho _ _ _).1.trans (by rw[decide_eq_false (heq)])),AL5⟩ fun a20 w20 g20 Eu=>?_
     refine k15 _ _ ?_
     refine A1 Eu rfl rfl ?_
     refine AL3 ?_
     refine y14 _ _ ?_
     refine k13 _ _ ?_
     refine ALy ?_
     refine AJ Eu 2 [(11,.int .i64 ((i:Int))),(12,.int .i64 (((i+1:Nat):Int)))]
      ⟨ym r5,Cz r6 (fun _=>Dk (by rw[BG (by omega) (by omega)];omega)),AL5⟩ fun a21 w21 g21 Di=>?_
     have AGr:=AA g20 g21
     refine AY (v:=.int .i64 (((i+1:Nat):Int))) Di r6 fun a22 Ct=>?_
     refine AE ?_
     replace AK:=AC AGr AK
     replace AN:=AC AGr AN
     replace hr:=hr.kn AGr
     replace HG:=AA HG AGr
     exact⟨⟨i+1,by omega,fun k hk=>if e:k=i then (by rw[e,hod];exact hne) else hb k (by omega),⟨Ct.1,Ct.2.1,Ct.2.2.1,(AG (AG Ct)).2.2.1,(AG (AG Ct)).2.2.2.1,(AG (AG Ct)).2.2.2.2.1,(AG (AG Ct)).2.2.2.2.2.1,AL5⟩,HG,AK,AN,hr⟩,by rw[show _=_ from Ct.2.2.1,show _=_ from sv9.2.2.1];simp[intOf];omega⟩
 · have hno:Hv (ks.map VK.p) o=false:=AIx fun k hk=>hb k (by omega)
   refine ALy ?_
   refine AJ sv9 5 [(6,.int .i64 ((i:Int))),(7,pk Ci 64),(8,.slice ao ks.length cap),(9,.int .i64 ((ks.length:Nat))),(10,.bool false)]
     ⟨ym r5,yf r6 (fun _=>by kernel_rfl),yp (i:=2) r6 (EP (.slice ao ks.length cap) rfl) AK rfl (by simp[AI,AV,hsa.1,hpo.1]),Bv (Tryz.underlying34) rfl rfl trivial (oy rfl rfl) (fun _=>rfl),Il r7 (fun _=>Bo (by simp;omega)),AL5⟩ fun a23 w23 g23 Cw=>?_
   refine AE ?_
   refine k11 _ _ ?_
   refine A1 Cw rfl rfl ?_
   refine wp_exit ?_
   repeat refine CY ?_
   refine x8 _ _ ?_
   refine k5 _ _ ?_
   refine ALz fun K24 k24=>?_
   refine ALy ?_
   refine AY (v:=.int .i64 (-1)) Cw r6 fun a25 DV=>?_
   refine AE ?_
   refine k24 _ _ ?_
   replace HG:=AA HG g23
   refine AL2 ?_
   repeat refine AL ?_
   refine BI (fn:=Tryz.f84) DV (BC (p:=4) Tryz.results84 DV rfl rfl) ?_
   exact⟨AJ8 (by unfold atV;rw[hno];rfl),HG⟩
theorem Mj {x y:List Nat} {b:Bool} (hb:Eg x y=b) (hx:Dg x) (hy:Dg y) (w:World):Calls Tryz.prog 86 #[AP x,AP y] w fun e w'=>e=.returned (.bool b)∧w.grownBy w' none:=hb▸ACd x y hx hy w
theorem Xn (ks:List VK) (ao:Option Addr) (cap:Nat) (sa po:List Nat) (hsa:Dg sa) (hpo:Dg po) (w:World) (hr:RdK w (.slice ao ks.length cap) ks) :
   Calls Tryz.prog 51 #[Am sa po (.slice ao ks.length cap)] w fun e w'=>e=.returned (.bool (CK (ks.map VK.p)))∧w.grownBy w' none:=by
 have hlen:=hr.len
 have hmap:(ks.map VK.p).length=ks.length:=List.length_map _
 refine Dm Tryz.func51 rfl Tryz.ntmps51 rfl fun a0 sv0=>?_
 have HG:=World.grownBy.refl w none
 replace sv0:Sv 38 [] [(0,Am sa po (.slice ao ks.length cap))] a0:=sv0
 refine ALz fun K1 k1=>?_
 refine ALy ?_
 refine Bj sv0 r6 (Bb hsa hpo (.slice ao ks.length cap) rfl) fun a2 w2 CI F8 g2 z2 Aa sv2=>?_
 replace hr:=hr.kn g2
 replace HG:=AA HG g2
 refine AY (v:=.bool false) sv2 r6 fun a3 sv3=>?_
 refine AE ?_
 refine k1 _ _ ?_
 refine ALz fun K4 k4=>?_
 refine ALy ?_
 refine Ef sv3 rfl (dd:={ target:=.fn (.func 95) #[],args:=#[] }) rfl (by simp[execOp,resolve,Deferred.ofValue];try rfl) fun a5 sv5=>?_
 refine AE ?_
 refine k4 _ _ ?_
 refine ALz fun K6 k6=>?_
 refine ALz fun K7 k7=>?_
 by_cases hbig:64<ks.length
 · refine ALy ?_
   refine AJ sv5 4 [(5,pk CI 64),(6,.slice ao ks.length cap),(7,.int .i64 ((ks.length:Nat))),(8,.bool true)]
     ⟨yf r6 (fun _=>by kernel_rfl),yp (i:=2) r6 (EP (.slice ao ks.length cap) rfl) Aa rfl (by simp[AI,AV,hsa.1,hpo.1]),Bv (Tryz.underlying34) rfl rfl trivial (oy rfl rfl) (fun _=>rfl),Cz r6 (fun _=>DI (by simp;omega)),AL5⟩ fun a8 w8 g8 sv8=>?_
   refine AE ?_
   refine k7 _ _ ?_
   refine Aw sv8 rfl rfl ?_
   refine ALz fun K9 k9=>?_
   refine ALy ?_
   refine AY (v:=.bool false) sv8 r6 fun a10 Cb=>?_
   refine AE ?_
   refine k9 _ _ ?_
   replace Aa:=AC g8 Aa
   replace hr:=hr.kn g8
   replace HG:=AA HG g8
   refine AL2 ?_
   repeat refine AL ?_
   refine BK (fn:=Tryz.f51) Cb (BC (p:=2) Tryz.results51 Cb rfl rfl) (Bn Tryz.func95 (by kernel_rfl) rfl _ _) (C4 _) ?_
   exact⟨Hd ((Xo (by omega)).symm),HG⟩
 · refine ALy ?_
   refine AJ sv5 4 [(5,pk CI 64),(6,.slice ao ks.length cap),(7,.int .i64 ((ks.length:Nat))),(8,.bool false)]
     ⟨yf r6 (fun _=>by kernel_rfl),yp (i:=2) r6 (EP (.slice ao ks.length cap) rfl) Aa rfl (by simp[AI,AV,hsa.1,hpo.1]),Bv (Tryz.underlying34) rfl rfl trivial (oy rfl rfl) (fun _=>rfl),Cz r6 (fun _=>DI (by simp;omega)),AL5⟩ fun a11 w11 g11 Cc=>?_
   refine AE ?_
   refine k7 _ _ ?_
   refine A1 Cc rfl rfl ?_
   refine AL3 ?_
   refine k6 _ _ ?_
   refine ALz fun K12 k12=>?_
   refine ALz fun K13 k13=>?_
   refine ALy ?_
   refine AJ Cc 4 [(9,pk CI 64),(10,.slice ao ks.length cap),(11,.int .i64 ((ks.length:Nat))),(12,.int .i64 0)]
     ⟨yf r6 (fun _=>by kernel_rfl),yp (i:=2) r6 (EP (.slice ao ks.length cap) rfl) (AC g11 Aa) rfl (by simp[AI,AV,hsa.1,hpo.1]),Bv (Tryz.underlying34) rfl rfl trivial (oy rfl rfl) (fun _=>rfl),E0 (.inl rfl) rfl trivial (fun _=>rfl),AL5⟩ fun a14 w14 g14 Da=>?_
   have Xp:=AA g11 g14
   refine AE ?_
   refine k13 _ _ ?_
   refine BM fun Q15 x15 y15 r15 o15=>?_
   replace Aa:=AC Xp Aa
   replace hr:=hr.kn Xp
   replace HG:=AA HG Xp
   refine wp_loop (fun a w'=>∃(i:Nat),(i≤ks.length)∧(∀k,k<i→chk (ks.map VK.p) k=true)∧Sv 38 [{ target:=.fn (.func 95) #[],args:=#[] }] [(12,.int .i64 ((i:Int))),(9,pk CI 64),(10,.slice ao ks.length cap),(11,.int .i64 ((ks.length:Nat))),(5,pk CI 64),(6,.slice ao ks.length cap),(7,.int .i64 ((ks.length:Nat))),(8,.bool false),(1,pt CI),(0,Am sa po (.slice ao ks.length cap))] a∧w.grownBy w' none∧w'.heap[CI]?=some (.cells ([bv sa,bv po,[.slice ao ks.length cap]].flatten).toArray 36 (0,0))∧RdK w' (.slice ao ks.length cap) ks) (fun a _=>(ks.length-intOf (a.tmps.getD 12 undef)).toNat) ⟨0,Nat.zero_le _,fun k hk=>by omega,⟨Da.1,Da.2.1,Da.2.2.2.2.2.1,Da.2.2.1,Da.2.2.2.1,Da.2.2.2.2.1,Da.2.2.2.2.2.2.1,Da.2.2.2.2.2.2.2.1,(AG Da).1,(AG Da).2.1,(AG Da).2.2.2.1,(AG Da).2.2.2.2.1,AL5⟩,HG,Aa,hr⟩ fun a16 w16 hI16=>?_
   clear Aa
   clear hr
   clear HG
   obtain⟨i,hin,hb,DJ,HG,Aa,hr⟩:=hI16
   refine ALz fun K17 k17=>?_
   by_cases hi:i<ks.length
   · have hp:i-1<ks.length:=by omega
     obtain⟨x,hx_x⟩:∃x,ks[i]'hi=x:=⟨_,rfl⟩
     obtain⟨y,hx_y⟩:∃x,ks[(i-1)]'hp=x:=⟨_,rfl⟩
     have hchk:=AH0 hi hp hx_x hx_y
     refine ALy ?_
     refine AJ DJ 1 [(13,.bool true)]
       ⟨Il r7 (fun _=>Bo (by simp;omega)),AL5⟩ fun a18 w18 g18 CZ=>?_
     refine AE ?_
     refine k17 _ _ ?_
     refine ALz fun K19 k19=>?_
     refine Aw CZ rfl rfl ?_
     refine AL3 ?_
     refine k19 _ _ ?_
     refine ALz fun K20 k20=>?_
     refine BM fun Q21 x21 y21 r21 o21=>?_
     refine ALz fun K22 k22=>?_
     refine ALy ?_
     replace hr:=hr.kn g18
     refine AJ CZ 3 [(14,.int .i64 ((i:Int))),(15,pk ((bO ao)) (oO ao+i*33)),(16,Hk x)]
       ⟨ym r5,BA rq8 (fun w=>CU Tryz.underlying34 (by kernel_rfl) (hr.1.1) (by omega) (rfl) w),Bu r6 (fun _ g=>Ab (VJ x) (RdK.keyX (hr.kn g) rfl hi hx_x)),AL5⟩ fun a23 w23 g23 Cw=>?_
     replace Aa:=AC g23 (AC g18 Aa)
     replace hr:=hr.kn g23
     replace HG:=AA (AA HG g18) g23
     refine Ar (T:=58) (Z:=([bv AR,[.slice none 0 0]].flatten)) Cw rfl rfl rfl (fun a w=>by kernel_rfl) fun a24 w24 O9 Qw g24 z24 D5 ER=>?_
     have TA:=An Aa Qw
     have AEf:=Bt HG Qw
     have Xq:=Au (hr.lt) Qw
     refine AY (v:=.int .i64 ((i:Int))) ER r6 fun a25 DV=>?_
     refine Ao DV r7 (VJ x) D5 (by first|rfl|simp[Af,AI,AV,x.ho.1]) fun w26 g26 h26=>?_
     replace Aa:=AX g26 (AC g24 Aa) (Ne.symm TA)
     replace hr:=(hr.kn g24).offR g26 (AU Xq)
     replace HG:=AD (AA HG g24) g26 AEf
     replace D5:=h26
     refine AE ?_
     refine k22 _ _ ?_
     refine ALz fun K27 k27=>?_
     rcases(show(i=0∧GO x.l=true)∨(i=0∧GO x.l=false)∨(0<i∧Eg y.o x.o=true∧GO x.l=true)∨(0<i∧Eg y.o x.o=true∧GO x.l=false)∨(0<i∧Eg y.o x.o=false∧GO x.l=true)∨(0<i∧Eg y.o x.o=false∧GO x.l=false) by
        rcases Nat.eq_zero_or_pos i with h|h<;>cases h2:GO x.l<;>cases h3:Eg y.o x.o<;>simp[h]) with ⟨hz,hv⟩|⟨hz,hv⟩|⟨hz,hc,hv⟩|⟨hz,hc,hv⟩|⟨hz,hc,hv⟩|⟨hz,hc,hv⟩
     · have hok:((decide (i=0)||Eg y.o x.o)&&GO x.l)=true:=by simp[hz,hv]
       refine DM DV [(17,.int .i64 ((i:Int))),(18,.bool false),(19,.bool false),(20,undef),(21,undef),(22,undef),(23,undef),(24,undef),(25,undef),(26,undef),(27,undef),(28,undef),(29,undef),(30,.bool false),(31,.bool false),(32,pk O9 32),(33,.agg #[VK.s x]),(34,.bool true),(35,.bool false),(36,.bool false)]
        ⟨ym r5,Cz r6 (fun _=>DI (by simp;omega)),ym r5,AZ r6,AZ r6,AZ r6,AZ r6,AZ r6,AZ r6,AZ r6,AZ r6,AZ r6,AZ r6,CL r7,ym r5,BX rq9 (fun _=>by kernel_rfl),Aq rq9 (fun _ g=>Ab (PQ (VK.s x) rfl) (Bl (L:=[bv x.o,[VK.s x]]) (i:=1) (AF g D5 (by simp)) rfl (by simp[AI,AV,x.ho.1]))),B7 [.agg #[VK.s x]] Tryz.func97 (by kernel_rfl) r7 ⟨(oy rfl rfl),AL5⟩ (Ap fun W g=>Ix hv ((hr.kn g).kt hi hx_x)),Ha rfl rfl (gy rfl rfl rfl) (oy rfl rfl) (fun _=>Bf) (fun _=>rfl),A2 rq9,AL5⟩ fun a28 w28 g28 Js=>?_
       refine k27 _ _ ?_
       refine A1 Js rfl rfl ?_
       refine AL3 ?_
       refine y21 _ _ ?_
       refine k20 _ _ ?_
       refine ALy ?_
       refine AJ Js 1 [(37,.int .i64 (((i+1:Nat):Int)))]
        ⟨Cz r6 (fun _=>Dk (by rw[BG (by omega) (by omega)];omega)),AL5⟩ fun a29 w29 g29 Cf=>?_
       have Gh:=AA g28 g29
       refine AJ (Cf.dl [12]) 1 [(12,.int .i64 (((i+1:Nat):Int)))]
        ⟨ym r5,AL5⟩ fun a30 w30 g30 E4=>?_
       have AGs:=AA Gh g30
       refine AE ?_
       replace Aa:=AC AGs Aa
       replace D5:=AC AGs D5
       replace hr:=hr.kn AGs
       replace HG:=AA HG AGs
       exact⟨⟨i+1,by omega,fun k hk=>if e:k=i then (by rw[e,hchk];exact hok) else hb k (by omega),⟨E4.1,E4.2.1,E4.2.2.1,(AG (AG (AG E4))).2.2.2.2.2.2.1,(AG (AG (AG E4))).2.2.2.2.2.2.2.1,(AG (AG (AG (AG E4)))).1,(AG (AG (AG (AG E4)))).2.1,(AG (AG (AG (AG E4)))).2.2.1,(AG (AG (AG (AG E4)))).2.2.2.1,(AG (AG (AG (AG E4)))).2.2.2.2.1,(AG (AG (AG (AG E4)))).2.2.2.2.2.1,(AG (AG (AG (AG E4)))).2.2.2.2.2.2.1,AL5⟩,HG,Aa,hr⟩,by rw[show _=_ from E4.2.2.1,show _=_ from DJ.2.2.1];simp[intOf];omega⟩
     · refine DM DV [(17,.int .i64 ((i:Int))),(18,.bool false),(19,.bool false),(20,undef),(21,undef),(22,undef),(23,undef),(24,undef),(25,undef),(26,undef),(27,undef),(28,undef),(29,undef),(30,.bool false),(31,.bool false),(32,pk O9 32),(33,.agg #[VK.s x]),(34,.bool false),(35,.bool true),(36,.bool true)]
        ⟨ym r5,Cz r6 (fun _=>DI (by simp;omega)),ym r5,AZ r6,AZ r6,AZ r6,AZ r6,AZ r6,AZ r6,AZ r6,AZ r6,AZ r6,AZ r6,CL r7,ym r5,BX rq9 (fun _=>by kernel_rfl),Aq rq9 (fun _ g=>Ab (PQ (VK.s x) rfl) (Bl (L:=[bv x.o,[VK.s x]]) (i:=1) (AF g D5 (by simp)) rfl (by simp[AI,AV,x.ho.1]))),B7 [.agg #[VK.s x]] Tryz.func97 (by kernel_rfl) r7 ⟨(oy rfl rfl),AL5⟩ (Ap fun W g=>Ix hv ((hr.kn g).kt hi hx_x)),Ha rfl rfl (gy rfl rfl rfl) (oy rfl rfl) (fun _=>Bf) (fun _=>rfl),A2 rq9,AL5⟩ fun a31 w31 g31 He=>?_
       refine k27 _ _ ?_
       refine Aw He rfl rfl ?_
       refine ALz fun K32 k32=>?_
       refine ALy ?_
       refine AY (v:=.bool false) He r6 fun a33 JU=>?_
       refine AE ?_
       refine k32 _ _ ?_
       replace Aa:=AC g31 Aa
       replace D5:=AC g31 D5
       replace hr:=hr.kn g31
       replace HG:=AA HG g31
       refine AL2 ?_
       repeat refine AL ?_
       refine r21 _ _ ?_
       repeat refine AL ?_
       refine r15 _ _ ?_
       repeat refine AL ?_
       refine BK (fn:=Tryz.f51) JU (BC (p:=2) Tryz.results51 JU rfl rfl) (Bn Tryz.func95 (by kernel_rfl) rfl _ _) (C4 _) ?_
       exact⟨Hd ((Iy (i:=i) (by rw[hmap];exact hi) (by rw[hchk];simp[hv])).symm),HG⟩
     · have hok:((decide (i=0)||Eg y.o x.o)&&GO x.l)=true:=by simp[hz,hv,hc]
       refine DM DV [(17,.int .i64 ((i:Int))),(18,.bool true),(19,.bool true),(20,pk CI 64),(21,.slice ao ks.length cap),(22,.int .i64 ((i:Int))),(23,.int .i64 (((i-1:Nat):Int))),(24,pk ((bO ao)) (oO ao+(i-1)*33)),(25,Hk y),(26,pt O9),(27,AP x.o),(28,.int .i64 ((Hc y.o x.o))),(29,.bool false),(30,.bool false),(31,.bool false),(32,pk O9 32),(33,.agg #[VK.s x]),(34,.bool true),(35,.bool false),(36,.bool false)]
        ⟨ym r5,Cz r6 (fun _=>DI (by simp;omega)),ym r5,BX rq9 (fun _=>by kernel_rfl),Aq rq9 (fun _ g=>Ab (EP (.slice ao ks.length cap) rfl) (Bl (L:=[bv sa,bv po,[.slice ao ks.length cap]]) (i:=2) (AF g Aa (by simp)) rfl (by simp[AI,AV,hsa.1,hpo.1]))),Az rq8,BJ rq9 (fun _=>F6 (by rw[BG (by omega) (by omega)];omega)),Cq rfl rfl (gy rfl rfl rfl) (oy rfl rfl) (oy rfl rfl) (fun w=>CU Tryz.underlying34 (by kernel_rfl) (hr.1.1) (by omega) (rfl) w) (fun _=>rfl),Aq rq9 (fun _ g=>Ab (VJ y) (RdK.keyX (hr.kn g) rfl hp hx_y)),BX rq9 (fun _=>by kernel_rfl),Aq rq9 (fun _ g=>Ab (B6 x.o x.ho.1) (Bl (L:=[bv x.o,[VK.s x]]) (i:=0) (AF g D5 (by simp)) rfl rfl)),B7 [Hk y,AP x.o] Tryz.func96 (by kernel_rfl) r7 ⟨(oy rfl rfl),(oy rfl rfl),AL5⟩ (Ap fun W g=>Gf y x.o x.ho W),BJ rq9 (fun _=>FS (by rw[Ln,hc];rfl)),A2 rq9,ym r5,BX rq9 (fun _=>by kernel_rfl),Aq rq9 (fun _ g=>Ab (PQ (VK.s x) rfl) (Bl (L:=[bv x.o,[VK.s x]]) (i:=1) (AF g D5 (by simp)) rfl (by simp[AI,AV,x.ho.1]))),B7 [.agg #[VK.s x]] Tryz.func97 (by kernel_rfl) r7 ⟨(oy rfl rfl),AL5⟩ (Ap fun W g=>Ix hv ((hr.kn g).kt hi hx_x)),Ha rfl rfl (gy rfl rfl rfl) (oy rfl rfl) (fun _=>Bf) (fun _=>rfl),A2 rq9,AL5⟩ fun a34 w34 g34 MB=>?_
       refine k27 _ _ ?_
       refine A1 MB rfl rfl ?_
       refine AL3 ?_
       refine y21 _ _ ?_
       refine k20 _ _ ?_
       refine ALy ?_
       refine AJ MB 1 [(37,.int .i64 (((i+1:Nat):Int)))]
        ⟨Cz r6 (fun _=>Dk (by rw[BG (by omega) (by omega)];omega)),AL5⟩ fun a35 w35 g35 Ki=>?_
       have ALC:=AA g34 g35
       refine AJ (Ki.dl [12]) 1 [(12,.int .i64 (((i+1:Nat):Int)))]
        ⟨ym r5,AL5⟩ fun a36 w36 g36 Fw=>?_
       have Qx:=AA ALC g36
       refine AE ?_
       replace Aa:=AC Qx Aa
       replace D5:=AC Qx D5
       replace hr:=hr.kn Qx
       replace HG:=AA HG Qx
       exact⟨⟨i+1,by omega,fun k hk=>if e:k=i then (by rw[e,hchk];exact hok) else hb k (by omega),⟨Fw.1,Fw.2.1,Fw.2.2.1,(AG (AG (AG Fw))).2.2.2.2.2.2.1,(AG (AG (AG Fw))).2.2.2.2.2.2.2.1,(AG (AG (AG (AG Fw)))).1,(AG (AG (AG (AG Fw)))).2.1,(AG (AG (AG (AG Fw)))).2.2.1,(AG (AG (AG (AG Fw)))).2.2.2.1,(AG (AG (AG (AG Fw)))).2.2.2.2.1,(AG (AG (AG (AG Fw)))).2.2.2.2.2.1,(AG (AG (AG (AG Fw)))).2.2.2.2.2.2.1,AL5⟩,HG,Aa,hr⟩,by rw[show _=_ from Fw.2.2.1,show _=_ from DJ.2.2.1];simp[intOf];omega⟩
     · refine DM DV [(17,.int .i64 ((i:Int))),(18,.bool true),(19,.bool true),(20,pk CI 64),(21,.slice ao ks.length cap),(22,.int .i64 ((i:Int))),(23,.int .i64 (((i-1:Nat):Int))),(24,pk ((bO ao)) (oO ao+(i-1)*33)),(25,Hk y),(26,pt O9),(27,AP x.o),(28,.int .i64 ((Hc y.o x.o))),(29,.bool false),(30,.bool false),(31,.bool false),(32,pk O9 32),(33,.agg #[VK.s x]),(34,.bool false),(35,.bool true),(36,.bool true)]
        ⟨ym r5,Cz r6 (fun _=>DI (by simp;omega)),ym r5,BX rq9 (fun _=>by kernel_rfl),Aq rq9 (fun _ g=>Ab (EP (.slice ao ks.length cap) rfl) (Bl (L:=[bv sa,bv po,[.slice ao ks.length cap]]) (i:=2) (AF g Aa (by simp)) rfl (by simp[AI,AV,hsa.1,hpo.1]))),Az rq8,BJ rq9 (fun _=>F6 (by rw[BG (by omega) (by omega)];omega)),Cq rfl rfl (gy rfl rfl rfl) (oy rfl rfl) (oy rfl rfl) (fun w=>CU Tryz.underlying34 (by kernel_rfl) (hr.1.1) (by omega) (rfl) w) (fun _=>rfl),Aq rq9 (fun _ g=>Ab (VJ y) (RdK.keyX (hr.kn g) rfl hp hx_y)),BX rq9 (fun _=>by kernel_rfl),Aq rq9 (fun _ g=>Ab (B6 x.o x.ho.1) (Bl (L:=[bv x.o,[VK.s x]]) (i:=0) (AF g D5 (by simp)) rfl rfl)),B7 [Hk y,AP x.o] Tryz.func96 (by kernel_rfl) r7 ⟨(oy rfl rfl),(oy rfl rfl),AL5⟩ (Ap fun W g=>Gf y x.o x.ho W),BJ rq9 (fun _=>FS (by rw[Ln,hc];rfl)),A2 rq9,ym r5,BX rq9 (fun _=>by kernel_rfl),Aq rq9 (fun _ g=>Ab (PQ (VK.s x) rfl) (Bl (L:=[bv x.o,[VK.s x]]) (i:=1) (AF g D5 (by simp)) rfl (by simp[AI,AV,x.ho.1]))),B7 [.agg #[VK.s x]] Tryz.func97 (by kernel_rfl) r7 ⟨(oy rfl rfl),AL5⟩ (Ap fun W g=>Ix hv ((hr.kn g).kt hi hx_x)),Ha rfl rfl (gy rfl rfl rfl) (oy rfl rfl) (fun _=>Bf) (fun _=>rfl),A2 rq9,AL5⟩ fun a37 w37 g37 IR=>?_
       refine k27 _ _ ?_
       refine Aw IR rfl rfl ?_
       refine ALz fun K38 k38=>?_
       refine ALy ?_
       refine AY (v:=.bool false) IR r6 fun a39 JV=>?_
       refine AE ?_
       refine k38 _ _ ?_
       replace Aa:=AC g37 Aa
       replace D5:=AC g37 D5
       replace hr:=hr.kn g37
       replace HG:=AA HG g37
       refine AL2 ?_
       repeat refine AL ?_
       refine r21 _ _ ?_
       repeat refine AL ?_
       refine r15 _ _ ?_
       repeat refine AL ?_
       refine BK (fn:=Tryz.f51) JV (BC (p:=2) Tryz.results51 JV rfl rfl) (Bn Tryz.func95 (by kernel_rfl) rfl _ _) (C4 _) ?_
       exact⟨Hd ((Iy (i:=i) (by rw[hmap];exact hi) (by rw[hchk];simp[hv,hc,Nat.ne_of_gt hz])).symm),HG⟩
     · refine DM DV [(17,.int .i64 ((i:Int))),(18,.bool true),(19,.bool true),(20,pk CI 64),(21,.slice ao ks.length cap),(22,.int .i64 ((i:Int))),(23,.int .i64 (((i-1:Nat):Int))),(24,pk ((bO ao)) (oO ao+(i-1)*33)),(25,Hk y),(26,pt O9),(27,AP x.o),(28,.int .i64 ((Hc y.o x.o))),(29,.bool true),(30,.bool true),(31,.bool true),(32,undef),(33,undef),(34,undef),(35,undef),(36,.bool true)]
        ⟨ym r5,Cz r6 (fun _=>DI (by simp;omega)),ym r5,BX rq9 (fun _=>by kernel_rfl),Aq rq9 (fun _ g=>Ab (EP (.slice ao ks.length cap) rfl) (Bl (L:=[bv sa,bv po,[.slice ao ks.length cap]]) (i:=2) (AF g Aa (by simp)) rfl (by simp[AI,AV,hsa.1,hpo.1]))),Az rq8,BJ rq9 (fun _=>F6 (by rw[BG (by omega) (by omega)];omega)),Cq rfl rfl (gy rfl rfl rfl) (oy rfl rfl) (oy rfl rfl) (fun w=>CU Tryz.underlying34 (by kernel_rfl) (hr.1.1) (by omega) (rfl) w) (fun _=>rfl),Aq rq9 (fun _ g=>Ab (VJ y) (RdK.keyX (hr.kn g) rfl hp hx_y)),BX rq9 (fun _=>by kernel_rfl),Aq rq9 (fun _ g=>Ab (B6 x.o x.ho.1) (Bl (L:=[bv x.o,[VK.s x]]) (i:=0) (AF g D5 (by simp)) rfl rfl)),B7 [Hk y,AP x.o] Tryz.func96 (by kernel_rfl) r7 ⟨(oy rfl rfl),(oy rfl rfl),AL5⟩ (Ap fun W g=>Gf y x.o x.ho W),BJ rq9 (fun _=>FS (by rw[Ln,hc];rfl)),A2 rq9,ym r5,AZ r6,AZ r6,AZ r6,AZ r6,CL r7,AL5⟩ fun a40 w40 g40 Kj=>?_
       refine k27 _ _ ?_
       refine Aw Kj rfl rfl ?_
       refine ALz fun K41 k41=>?_
       refine ALy ?_
       refine AY (v:=.bool false) Kj r6 fun a42 Hl=>?_
       refine AE ?_
       refine k41 _ _ ?_
       replace Aa:=AC g40 Aa
       replace D5:=AC g40 D5
       replace hr:=hr.kn g40
       replace HG:=AA HG g40
       refine AL2 ?_
       repeat refine AL ?_
       refine r21 _ _ ?_
       repeat refine AL ?_
       refine r15 _ _ ?_
       repeat refine AL ?_
       refine BK (fn:=Tryz.f51) Hl (BC (p:=2) Tryz.results51 Hl rfl rfl) (Bn Tryz.func95 (by kernel_rfl) rfl _ _) (C4 _) ?_
       exact⟨Hd ((Iy (i:=i) (by rw[hmap];exact hi) (by rw[hchk];simp[hv,hc,Nat.ne_of_gt hz])).symm),HG⟩
     · refine DM DV [(17,.int .i64 ((i:Int))),(18,.bool true),(19,.bool true),(20,pk CI 64),(21,.slice ao ks.length cap),(22,.int .i64 ((i:Int))),(23,.int .i64 (((i-1:Nat):Int))),(24,pk ((bO ao)) (oO ao+(i-1)*33)),(25,Hk y),(26,pt O9),(27,AP x.o),(28,.int .i64 ((Hc y.o x.o))),(29,.bool true),(30,.bool true),(31,.bool true),(32,undef),(33,undef),(34,undef),(35,undef),(36,.bool true)]
        ⟨ym r5,Cz r6 (fun _=>DI (by simp;omega)),ym r5,BX rq9 (fun _=>by kernel_rfl),Aq rq9 (fun _ g=>Ab (EP (.slice ao ks.length cap) rfl) (Bl (L:=[bv sa,bv po,[.slice ao ks.length cap]]) (i:=2) (AF g Aa (by simp)) rfl (by simp[AI,AV,hsa.1,hpo.1]))),Az rq8,BJ rq9 (fun _=>F6 (by rw[BG (by omega) (by omega)];omega)),Cq rfl rfl (gy rfl rfl rfl) (oy rfl rfl) (oy rfl rfl) (fun w=>CU Tryz.underlying34 (by kernel_rfl) (hr.1.1) (by omega) (rfl) w) (fun _=>rfl),Aq rq9 (fun _ g=>Ab (VJ y) (RdK.keyX (hr.kn g) rfl hp hx_y)),BX rq9 (fun _=>by kernel_rfl),Aq rq9 (fun _ g=>Ab (B6 x.o x.ho.1) (Bl (L:=[bv x.o,[VK.s x]]) (i:=0) (AF g D5 (by simp)) rfl rfl)),B7 [Hk y,AP x.o] Tryz.func96 (by kernel_rfl) r7 ⟨(oy rfl rfl),(oy rfl rfl),AL5⟩ (Ap fun W g=>Gf y x.o x.ho W),BJ rq9 (fun _=>FS (by rw[Ln,hc];rfl)),A2 rq9,ym r5,AZ r6,AZ r6,AZ r6,AZ r6,CL r7,AL5⟩ fun a43 w43 g43 Jt=>?_
       refine k27 _ _ ?_
       refine Aw Jt rfl rfl ?_
       refine ALz fun K44 k44=>?_
       refine ALy ?_
       refine AY (v:=.bool false) Jt r6 fun a45 Ev=>?_
       refine AE ?_
       refine k44 _ _ ?_
       replace HG:=AA HG g43
       refine AL2 ?_
       repeat refine AL ?_
       refine r21 _ _ ?_
       repeat refine AL ?_
       refine r15 _ _ ?_
       repeat refine AL ?_
       refine BK (fn:=Tryz.f51) Ev (BC (p:=2) Tryz.results51 Ev rfl rfl) (Bn Tryz.func95 (by kernel_rfl) rfl _ _) (C4 _) ?_
       exact⟨Hd ((Iy (i:=i) (by rw[hmap];exact hi) (by rw[hchk];simp[hv,hc,Nat.ne_of_gt hz])).symm),HG⟩
   · refine ALy ?_
     refine AJ DJ 1 [(13,.bool false)]
       ⟨Il r7 (fun _=>Bo (by simp;omega)),AL5⟩ fun a46 w46 g46 Ju=>?_
     refine AE ?_
     refine k17 _ _ ?_
     refine ALz fun K47 k47=>?_
     refine A1 Ju rfl rfl ?_
     refine wp_exit ?_
     repeat refine CY ?_
     refine x15 _ _ ?_
     refine k12 _ _ ?_
     refine ALz fun K48 k48=>?_
     refine ALy ?_
     refine AY (v:=.bool true) Ju r6 fun a49 JH=>?_
     refine AE ?_
     refine k48 _ _ ?_
     replace HG:=AA HG g46
     refine AL2 ?_
     repeat refine AL ?_
     refine BK (fn:=Tryz.f51) JH (BC (p:=2) Tryz.results51 JH rfl rfl) (Bn Tryz.func95 (by kernel_rfl) rfl _ _) (C4 _) ?_
     exact⟨Hd ((Xr (by omega) fun k hk=>hb k (by omega)).symm),HG⟩
theorem VQ (ks:List VK) (ao:Option Addr) (cap:Nat) (sa po:List Nat) (hsa:Dg sa) (hpo:Dg po) (w:World) (hr:RdK w (.slice ao ks.length cap) ks) :
   Calls Tryz.prog 40 #[Am sa po (.slice ao ks.length cap)] w fun e w'=>e=.returned (.bool (CK (ks.map VK.p)))∧w.grownBy w' none:=by
 have hlen:=hr.len
 have hmap:(ks.map VK.p).length=ks.length:=List.length_map _
 refine BZ Tryz.func40 rfl Tryz.ntmps40 rfl fun a0 sv0=>?_
 have HG:=World.grownBy.refl w none
 replace sv0:Sv 44 [] [(0,Am sa po (.slice ao ks.length cap))] a0:=sv0
 refine ALz fun K1 k1=>?_
 refine ALy ?_
 refine Bj sv0 r6 (Bb hsa hpo (.slice ao ks.length cap) rfl) fun a2 w2 CI F8 g2 z2 Aa sv2=>?_
 replace hr:=hr.kn g2
 replace HG:=AA HG g2
 refine AY (v:=.bool false) sv2 r6 fun a3 sv3=>?_
 refine AE ?_
 refine k1 _ _ ?_
 refine ALz fun K4 k4=>?_
 refine ALz fun K5 k5=>?_
 by_cases hbig:64<ks.length
 · refine ALy ?_
   refine AJ sv3 4 [(4,pk CI 64),(5,.slice ao ks.length cap),(6,.int .i64 ((ks.length:Nat))),(7,.bool true)]
     ⟨yf r6 (fun _=>by kernel_rfl),yp (i:=2) r6 (EP (.slice ao ks.length cap) rfl) Aa rfl (by simp[AI,AV,hsa.1,hpo.1]),Bv (Tryz.underlying34) rfl rfl trivial (oy rfl rfl) (fun _=>rfl),Cz r6 (fun _=>DI (by simp;omega)),AL5⟩ fun a6 w6 g6 sv6=>?_
   refine AE ?_
   refine k5 _ _ ?_
   refine Aw sv6 rfl rfl ?_
   refine ALz fun K7 k7=>?_
   refine ALy ?_
   refine AY (v:=.bool false) sv6 r6 fun a8 sv8=>?_
   refine AE ?_
   refine k7 _ _ ?_
   replace Aa:=AC g6 Aa
   replace hr:=hr.kn g6
   replace HG:=AA HG g6
   refine AL2 ?_
   repeat refine AL ?_
   refine BI (fn:=Tryz.f40) sv8 (BC (p:=2) Tryz.results40 sv8 rfl rfl) ?_
   exact⟨Hd ((Xo (by omega)).symm),HG⟩
 · refine ALy ?_
   refine AJ sv3 4 [(4,pk CI 64),(5,.slice ao ks.length cap),(6,.int .i64 ((ks.length:Nat))),(7,.bool false)]
     ⟨yf r6 (fun _=>by kernel_rfl),yp (i:=2) r6 (EP (.slice ao ks.length cap) rfl) Aa rfl (by simp[AI,AV,hsa.1,hpo.1]),Bv (Tryz.underlying34) rfl rfl trivial (oy rfl rfl) (fun _=>rfl),Cz r6 (fun _=>DI (by simp;omega)),AL5⟩ fun a9 w9 g9 sv9=>?_
   refine AE ?_
   refine k5 _ _ ?_
   refine A1 sv9 rfl rfl ?_
   refine AL3 ?_
   refine k4 _ _ ?_
   refine ALz fun K10 k10=>?_
   refine ALz fun K11 k11=>?_
   refine ALy ?_
   refine AY (v:=.int .i64 0) sv9 r6 fun a12 DL=>?_
   refine AE ?_
   refine k11 _ _ ?_
   refine BM fun Q13 x13 y13 r13 o13=>?_
   replace Aa:=AC g9 Aa
   replace hr:=hr.kn g9
   replace HG:=AA HG g9
   refine wp_loop (fun a w'=>∃(i:Nat),(i≤ks.length)∧(∀k,k<i→chk (ks.map VK.p) k=true)∧Sv 44 [] [(3,.int .i64 ((i:Int))),(4,pk CI 64),(5,.slice ao ks.length cap),(6,.int .i64 ((ks.length:Nat))),(7,.bool false),(1,pt CI),(0,Am sa po (.slice ao ks.length cap))] a∧w.grownBy w' none∧w'.heap[CI]?=some (.cells ([bv sa,bv po,[.slice ao ks.length cap]].flatten).toArray 36 (0,0))∧RdK w' (.slice ao ks.length cap) ks) (fun a _=>(ks.length-intOf (a.tmps.getD 3 undef)).toNat) ⟨0,Nat.zero_le _,fun k hk=>by omega,⟨DL.1,DL.2.1,DL.2.2.1,DL.2.2.2.1,DL.2.2.2.2.1,DL.2.2.2.2.2.1,DL.2.2.2.2.2.2.1,(AG DL).1,(AG DL).2.1,AL5⟩,HG,Aa,hr⟩ fun a14 w14 hI14=>?_
   clear Aa
   clear hr
   clear HG
   obtain⟨i,hin,hb,Da,HG,Aa,hr⟩:=hI14
   refine ALz fun K15 k15=>?_
   refine ALz fun K16 k16=>?_
   by_cases hi:i<ks.length
   · have hp:i-1<ks.length:=by omega
     obtain⟨x,hx_x⟩:∃x,ks[i]'hi=x:=⟨_,rfl⟩
     obtain⟨y,hx_y⟩:∃x,ks[(i-1)]'hp=x:=⟨_,rfl⟩
     have hchk:=AH0 hi hp hx_x hx_y
     refine ALy ?_
     refine AJ Da 5 [(8,.int .i64 ((i:Int))),(9,pk CI 64),(10,.slice ao ks.length cap),(11,.int .i64 ((ks.length:Nat))),(12,.bool true)]
       ⟨ym r5,yf r6 (fun _=>by kernel_rfl),yp (i:=2) r6 (EP (.slice ao ks.length cap) rfl) Aa rfl (by simp[AI,AV,hsa.1,hpo.1]),Bv (Tryz.underlying34) rfl rfl trivial (oy rfl rfl) (fun _=>rfl),Il r7 (fun _=>Bo (by simp;omega)),AL5⟩ fun a17 w17 g17 FY=>?_
     refine AE ?_
     refine k16 _ _ ?_
     refine Aw FY rfl rfl ?_
     refine AL3 ?_
     refine k15 _ _ ?_
     refine ALz fun K18 k18=>?_
     refine BM fun Q19 x19 y19 r19 o19=>?_
     refine ALz fun K20 k20=>?_
     replace Aa:=AC g17 Aa
     replace hr:=hr.kn g17
     replace HG:=AA HG g17
     rcases(show(i=0∧GO x.l=true)∨(i=0∧GO x.l=false)∨(0<i∧Eg y.o x.o=true∧GO x.l=true)∨(0<i∧Eg y.o x.o=true∧GO x.l=false)∨(0<i∧Eg y.o x.o=false∧GO x.l=true)∨(0<i∧Eg y.o x.o=false∧GO x.l=false) by
        rcases Nat.eq_zero_or_pos i with h|h<;>cases h2:GO x.l<;>cases h3:Eg y.o x.o<;>simp[h]) with ⟨hz,hv⟩|⟨hz,hv⟩|⟨hz,hc,hv⟩|⟨hz,hc,hv⟩|⟨hz,hc,hv⟩|⟨hz,hc,hv⟩
     · have hok:((decide (i=0)||Eg y.o x.o)&&GO x.l)=true:=by simp[hz,hv]
       refine DM FY [(15,pk CI 64),(16,.slice ao ks.length cap),(17,.int .i64 ((i:Int))),(18,pk ((bO ao)) (oO ao+i*33)),(19,pk ((bO ao)) (oO ao+i*33+32)),(20,.agg #[VK.s x]),(21,.bool true),(22,.bool false),(23,.bool false),(24,.int .i64 ((i:Int))),(25,.bool false),(26,.bool false),(27,undef),(28,undef),(29,undef),(30,undef),(31,undef),(32,undef),(33,undef),(34,undef),(35,undef),(36,undef),(37,undef),(38,undef),(39,undef),(40,undef),(41,undef),(42,.bool false),(43,.bool false)]
        ⟨yf r6 (fun _=>by kernel_rfl),yp (i:=2) r6 (EP (.slice ao ks.length cap) rfl) Aa rfl (by simp[AI,AV,hsa.1,hpo.1]),ym r5,BA rq8 (fun w=>CU Tryz.underlying34 (by kernel_rfl) (hr.1.1) (by omega) (rfl) w),yf r6 (fun _=>by kernel_rfl),Bu r6 (fun _ g=>Ab (PQ (VK.s x) rfl) (RdK.treeX (hr.kn g) rfl hi hx_x)),Ae [.agg #[VK.s x]] Tryz.func87 (by kernel_rfl) rq4 ⟨(oy rfl rfl),AL5⟩ (Ap fun W g=>FI hv ((hr.kn g).kt hi hx_x)),DG r6 (fun _=>Bf),ym r5,Az rq8,BJ rq9 (fun _=>DI (by simp;omega)),Az rq8,AZ r6,AZ r6,AZ r6,AZ r6,AZ r6,AZ r6,AZ r6,AZ r6,AZ r6,AZ r6,AZ r6,AZ r6,AZ r6,AZ r6,AZ r6,Iv rfl rfl (gy rfl rfl rfl) (oy rfl rfl) rfl (fun _=>rfl),A2 rq9,AL5⟩ fun a21 w21 g21 Di=>?_
       refine k20 _ _ ?_
       refine A1 Di rfl rfl ?_
       refine AL3 ?_
       refine y19 _ _ ?_
       refine k18 _ _ ?_
       refine ALy ?_
       refine AJ Di 2 [(13,.int .i64 ((i:Int))),(14,.int .i64 (((i+1:Nat):Int)))]
        ⟨ym r5,Cz r6 (fun _=>Dk (by rw[BG (by omega) (by omega)];omega)),AL5⟩ fun a22 w22 g22 Ct=>?_
       have PY:=AA g21 g22
       refine AY (v:=.int .i64 (((i+1:Nat):Int))) Ct r6 fun a23 Cw=>?_
       refine AE ?_
       replace Aa:=AC PY Aa
       replace hr:=hr.kn PY
       replace HG:=AA HG PY
       exact⟨⟨i+1,by omega,fun k hk=>if e:k=i then (by rw[e,hchk];exact hok) else hb k (by omega),⟨Cw.1,Cw.2.1,Cw.2.2.1,(AG (AG (AG (AG Cw)))).2.2.2.2.2.2.2.1,(AG (AG (AG (AG (AG Cw))))).1,(AG (AG (AG (AG (AG Cw))))).2.1,(AG (AG (AG (AG (AG Cw))))).2.2.1,(AG (AG (AG (AG (AG Cw))))).2.2.2.1,(AG (AG (AG (AG (AG Cw))))).2.2.2.2.1,AL5⟩,HG,Aa,hr⟩,by rw[show _=_ from Cw.2.2.1,show _=_ from Da.2.2.1];simp[intOf];omega⟩
     · refine DM FY [(15,pk CI 64),(16,.slice ao ks.length cap),(17,.int .i64 ((i:Int))),(18,pk ((bO ao)) (oO ao+i*33)),(19,pk ((bO ao)) (oO ao+i*33+32)),(20,.agg #[VK.s x]),(21,.bool false),(22,.bool true),(23,.bool true),(24,undef),(25,undef),(26,undef),(27,undef),(28,undef),(29,undef),(30,undef),(31,undef),(32,undef),(33,undef),(34,undef),(35,undef),(36,undef),(37,undef),(38,undef),(39,undef),(40,undef),(41,undef),(42,undef),(43,.bool true)]
        ⟨yf r6 (fun _=>by kernel_rfl),yp (i:=2) r6 (EP (.slice ao ks.length cap) rfl) Aa rfl (by simp[AI,AV,hsa.1,hpo.1]),ym r5,BA rq8 (fun w=>CU Tryz.underlying34 (by kernel_rfl) (hr.1.1) (by omega) (rfl) w),yf r6 (fun _=>by kernel_rfl),Bu r6 (fun _ g=>Ab (PQ (VK.s x) rfl) (RdK.treeX (hr.kn g) rfl hi hx_x)),Ae [.agg #[VK.s x]] Tryz.func87 (by kernel_rfl) rq4 ⟨(oy rfl rfl),AL5⟩ (Ap fun W g=>FI hv ((hr.kn g).kt hi hx_x)),DG r6 (fun _=>Bf),ym r5,AZ r6,AZ r6,AZ r6,BB ⟨26,rfl,rfl,fun _ _ h=>h⟩ rfl (fun _=>rfl),BB ⟨26,rfl,rfl,fun _ _ h=>h⟩ rfl (fun _=>rfl),BB ⟨26,rfl,rfl,fun _ _ h=>h⟩ rfl (fun _=>rfl),BB ⟨26,rfl,rfl,fun _ _ h=>h⟩ rfl (fun _=>rfl),BB ⟨26,rfl,rfl,fun _ _ h=>h⟩ rfl (fun _=>rfl),BB ⟨26,rfl,rfl,fun _ _ h=>h⟩ rfl (fun _=>rfl),BB ⟨26,rfl,rfl,fun _ _ h=>h⟩ rfl (fun _=>rfl),BB ⟨26,rfl,rfl,fun _ _ h=>h⟩ rfl (fun _=>rfl),BB ⟨26,rfl,rfl,fun _ _ h=>h⟩ rfl (fun _=>rfl),BB ⟨26,rfl,rfl,fun _ _ h=>h⟩ rfl (fun _=>rfl),BB ⟨26,rfl,rfl,fun _ _ h=>h⟩ rfl (fun _=>rfl),BB ⟨26,rfl,rfl,fun _ _ h=>h⟩ rfl (fun _=>rfl),BB ⟨26,rfl,rfl,fun _ _ h=>h⟩ rfl (fun _=>rfl),BB ⟨26,rfl,rfl,fun _ _ h=>h⟩ rfl (fun _=>rfl),BB ⟨26,rfl,rfl,fun _ _ h=>h⟩ rfl (fun _=>rfl),AZ r6,CL r7,AL5⟩ fun a24 w24 g24 ER=>?_
       refine k20 _ _ ?_
       refine Aw ER rfl rfl ?_
       refine ALz fun K25 k25=>?_
       refine ALy ?_
       refine AY (v:=.bool false) ER r6 fun a26 Cr=>?_
       refine AE ?_
       refine k25 _ _ ?_
       replace Aa:=AC g24 Aa
       replace hr:=hr.kn g24
       replace HG:=AA HG g24
       refine AL2 ?_
       repeat refine AL ?_
       refine r19 _ _ ?_
       repeat refine AL ?_
       refine r13 _ _ ?_
       repeat refine AL ?_
       refine BI (fn:=Tryz.f40) Cr (BC (p:=2) Tryz.results40 Cr rfl rfl) ?_
       exact⟨Hd ((Iy (i:=i) (by rw[hmap];exact hi) (by rw[hchk];simp[hv])).symm),HG⟩
     · have hok:((decide (i=0)||Eg y.o x.o)&&GO x.l)=true:=by simp[hz,hv,hc]
       refine DM FY [(15,pk CI 64),(16,.slice ao ks.length cap),(17,.int .i64 ((i:Int))),(18,pk ((bO ao)) (oO ao+i*33)),(19,pk ((bO ao)) (oO ao+i*33+32)),(20,.agg #[VK.s x]),(21,.bool true),(22,.bool false),(23,.bool false),(24,.int .i64 ((i:Int))),(25,.bool true),(26,.bool true),(27,pk CI 64),(28,.slice ao ks.length cap),(29,.int .i64 ((i:Int))),(30,.int .i64 (((i-1:Nat):Int))),(31,pk ((bO ao)) (oO ao+(i-1)*33)),(32,pk ((bO ao)) (oO ao+(i-1)*33)),(33,AP y.o),(34,pk CI 64),(35,.slice ao ks.length cap),(36,.int .i64 ((i:Int))),(37,pk ((bO ao)) (oO ao+i*33)),(38,pk ((bO ao)) (oO ao+i*33)),(39,AP x.o),(40,.bool true),(41,.bool false),(42,.bool false),(43,.bool false)]
        ⟨yf r6 (fun _=>by kernel_rfl),yp (i:=2) r6 (EP (.slice ao ks.length cap) rfl) Aa rfl (by simp[AI,AV,hsa.1,hpo.1]),ym r5,BA rq8 (fun w=>CU Tryz.underlying34 (by kernel_rfl) (hr.1.1) (by omega) (rfl) w),yf r6 (fun _=>by kernel_rfl),Bu r6 (fun _ g=>Ab (PQ (VK.s x) rfl) (RdK.treeX (hr.kn g) rfl hi hx_x)),Ae [.agg #[VK.s x]] Tryz.func87 (by kernel_rfl) rq4 ⟨(oy rfl rfl),AL5⟩ (Ap fun W g=>FI hv ((hr.kn g).kt hi hx_x)),DG r6 (fun _=>Bf),ym r5,Az rq8,BJ rq9 (fun _=>DI (by simp;omega)),Az rq8,BX rq9 (fun _=>by kernel_rfl),Aq rq9 (fun _ g=>Ab (EP (.slice ao ks.length cap) rfl) (Bl (L:=[bv sa,bv po,[.slice ao ks.length cap]]) (i:=2) (AF g Aa (by simp)) rfl (by simp[AI,AV,hsa.1,hpo.1]))),Az rq8,BJ rq9 (fun _=>F6 (by rw[BG (by omega) (by omega)];omega)),Cq rfl rfl (gy rfl rfl rfl) (oy rfl rfl) (oy rfl rfl) (fun w=>CU Tryz.underlying34 (by kernel_rfl) (hr.1.1) (by omega) (rfl) w) (fun _=>rfl),BX rq9 (fun _=>by kernel_rfl),Aq rq9 (fun _ g=>Ab (B6 y.o y.ho.1) (RdK.ownerX (hr.kn g) rfl hp hx_y)),BX rq9 (fun _=>by kernel_rfl),Aq rq9 (fun _ g=>Ab (EP (.slice ao ks.length cap) rfl) (Bl (L:=[bv sa,bv po,[.slice ao ks.length cap]]) (i:=2) (AF g Aa (by simp)) rfl (by simp[AI,AV,hsa.1,hpo.1]))),Az rq8,Cq rfl rfl (gy rfl rfl rfl) (oy rfl rfl) (oy rfl rfl) (fun w=>CU Tryz.underlying34 (by kernel_rfl) (hr.1.1) (by omega) (rfl) w) (fun _=>rfl),BX rq9 (fun _=>by kernel_rfl),Aq rq9 (fun _ g=>Ab (B6 x.o x.ho.1) (RdK.ownerX (hr.kn g) rfl hi hx_x)),B7 [AP y.o,AP x.o] Tryz.func86 (by kernel_rfl) r7 ⟨(oy rfl rfl),(oy rfl rfl),AL5⟩ (Ap fun W g=>Mj hc y.ho x.ho W),Ha rfl rfl (gy rfl rfl rfl) (oy rfl rfl) (fun _=>Bf) (fun _=>rfl),Iv rfl rfl (gy rfl rfl rfl) (oy rfl rfl) (oy rfl rfl) (fun _=>rfl),A2 rq9,AL5⟩ fun a27 w27 g27 JG=>?_
       refine k20 _ _ ?_
       refine A1 JG rfl rfl ?_
       refine AL3 ?_
       refine y19 _ _ ?_
       refine k18 _ _ ?_
       refine ALy ?_
       refine AJ JG 2 [(13,.int .i64 ((i:Int))),(14,.int .i64 (((i+1:Nat):Int)))]
        ⟨ym r5,Cz r6 (fun _=>Dk (by rw[BG (by omega) (by omega)];omega)),AL5⟩ fun a28 w28 g28 Js=>?_
       have Mi:=AA g27 g28
       refine AY (v:=.int .i64 (((i+1:Nat):Int))) Js r6 fun a29 Cf=>?_
       refine AE ?_
       replace Aa:=AC Mi Aa
       replace hr:=hr.kn Mi
       replace HG:=AA HG Mi
       exact⟨⟨i+1,by omega,fun k hk=>if e:k=i then (by rw[e,hchk];exact hok) else hb k (by omega),⟨Cf.1,Cf.2.1,Cf.2.2.1,(AG (AG (AG (AG Cf)))).2.2.2.2.2.2.2.1,(AG (AG (AG (AG (AG Cf))))).1,(AG (AG (AG (AG (AG Cf))))).2.1,(AG (AG (AG (AG (AG Cf))))).2.2.1,(AG (AG (AG (AG (AG Cf))))).2.2.2.1,(AG (AG (AG (AG (AG Cf))))).2.2.2.2.1,AL5⟩,HG,Aa,hr⟩,by rw[show _=_ from Cf.2.2.1,show _=_ from Da.2.2.1];simp[intOf];omega⟩
     · refine DM FY [(15,pk CI 64),(16,.slice ao ks.length cap),(17,.int .i64 ((i:Int))),(18,pk ((bO ao)) (oO ao+i*33)),(19,pk ((bO ao)) (oO ao+i*33+32)),(20,.agg #[VK.s x]),(21,.bool false),(22,.bool true),(23,.bool true),(24,undef),(25,undef),(26,undef),(27,undef),(28,undef),(29,undef),(30,undef),(31,undef),(32,undef),(33,undef),(34,undef),(35,undef),(36,undef),(37,undef),(38,undef),(39,undef),(40,undef),(41,undef),(42,undef),(43,.bool true)]
        ⟨yf r6 (fun _=>by kernel_rfl),yp (i:=2) r6 (EP (.slice ao ks.length cap) rfl) Aa rfl (by simp[AI,AV,hsa.1,hpo.1]),ym r5,BA rq8 (fun w=>CU Tryz.underlying34 (by kernel_rfl) (hr.1.1) (by omega) (rfl) w),yf r6 (fun _=>by kernel_rfl),Bu r6 (fun _ g=>Ab (PQ (VK.s x) rfl) (RdK.treeX (hr.kn g) rfl hi hx_x)),Ae [.agg #[VK.s x]] Tryz.func87 (by kernel_rfl) rq4 ⟨(oy rfl rfl),AL5⟩ (Ap fun W g=>FI hv ((hr.kn g).kt hi hx_x)),DG r6 (fun _=>Bf),ym r5,AZ r6,AZ r6,AZ r6,BB ⟨26,rfl,rfl,fun _ _ h=>h⟩ rfl (fun _=>rfl),BB ⟨26,rfl,rfl,fun _ _ h=>h⟩ rfl (fun _=>rfl),BB ⟨26,rfl,rfl,fun _ _ h=>h⟩ rfl (fun _=>rfl),BB ⟨26,rfl,rfl,fun _ _ h=>h⟩ rfl (fun _=>rfl),BB ⟨26,rfl,rfl,fun _ _ h=>h⟩ rfl (fun _=>rfl),BB ⟨26,rfl,rfl,fun _ _ h=>h⟩ rfl (fun _=>rfl),BB ⟨26,rfl,rfl,fun _ _ h=>h⟩ rfl (fun _=>rfl),BB ⟨26,rfl,rfl,fun _ _ h=>h⟩ rfl (fun _=>rfl),BB ⟨26,rfl,rfl,fun _ _ h=>h⟩ rfl (fun _=>rfl),BB ⟨26,rfl,rfl,fun _ _ h=>h⟩ rfl (fun _=>rfl),BB ⟨26,rfl,rfl,fun _ _ h=>h⟩ rfl (fun _=>rfl),BB ⟨26,rfl,rfl,fun _ _ h=>h⟩ rfl (fun _=>rfl),BB ⟨26,rfl,rfl,fun _ _ h=>h⟩ rfl (fun _=>rfl),BB ⟨26,rfl,rfl,fun _ _ h=>h⟩ rfl (fun _=>rfl),BB ⟨26,rfl,rfl,fun _ _ h=>h⟩ rfl (fun _=>rfl),AZ r6,CL r7,AL5⟩ fun a30 w30 g30 E4=>?_
       refine k20 _ _ ?_
       refine Aw E4 rfl rfl ?_
       refine ALz fun K31 k31=>?_
       refine ALy ?_
       refine AY (v:=.bool false) E4 r6 fun a32 Cl=>?_
       refine AE ?_
       refine k31 _ _ ?_
       replace Aa:=AC g30 Aa
       replace hr:=hr.kn g30
       replace HG:=AA HG g30
       refine AL2 ?_
       repeat refine AL ?_
       refine r19 _ _ ?_
       repeat refine AL ?_
       refine r13 _ _ ?_
       repeat refine AL ?_
       refine BI (fn:=Tryz.f40) Cl (BC (p:=2) Tryz.results40 Cl rfl rfl) ?_
       exact⟨Hd ((Iy (i:=i) (by rw[hmap];exact hi) (by rw[hchk];simp[hv,hc,Nat.ne_of_gt hz])).symm),HG⟩
     · refine DM FY [(15,pk CI 64),(16,.slice ao ks.length cap),(17,.int .i64 ((i:Int))),(18,pk ((bO ao)) (oO ao+i*33)),(19,pk ((bO ao)) (oO ao+i*33+32)),(20,.agg #[VK.s x]),(21,.bool true),(22,.bool false),(23,.bool false),(24,.int .i64 ((i:Int))),(25,.bool true),(26,.bool true),(27,pk CI 64),(28,.slice ao ks.length cap),(29,.int .i64 ((i:Int))),(30,.int .i64 (((i-1:Nat):Int))),(31,pk ((bO ao)) (oO ao+(i-1)*33)),(32,pk ((bO ao)) (oO ao+(i-1)*33)),(33,AP y.o),(34,pk CI 64),(35,.slice ao ks.length cap),(36,.int .i64 ((i:Int))),(37,pk ((bO ao)) (oO ao+i*33)),(38,pk ((bO ao)) (oO ao+i*33)),(39,AP x.o),(40,.bool false),(41,.bool true),(42,.bool true),(43,.bool true)]
        ⟨yf r6 (fun _=>by kernel_rfl),yp (i:=2) r6 (EP (.slice ao ks.length cap) rfl) Aa rfl (by simp[AI,AV,hsa.1,hpo.1]),ym r5,BA rq8 (fun w=>CU Tryz.underlying34 (by kernel_rfl) (hr.1.1) (by omega) (rfl) w),yf r6 (fun _=>by kernel_rfl),Bu r6 (fun _ g=>Ab (PQ (VK.s x) rfl) (RdK.treeX (hr.kn g) rfl hi hx_x)),Ae [.agg #[VK.s x]] Tryz.func87 (by kernel_rfl) rq4 ⟨(oy rfl rfl),AL5⟩ (Ap fun W g=>FI hv ((hr.kn g).kt hi hx_x)),DG r6 (fun _=>Bf),ym r5,Az rq8,BJ rq9 (fun _=>DI (by simp;omega)),Az rq8,BX rq9 (fun _=>by kernel_rfl),Aq rq9 (fun _ g=>Ab (EP (.slice ao ks.length cap) rfl) (Bl (L:=[bv sa,bv po,[.slice ao ks.length cap]]) (i:=2) (AF g Aa (by simp)) rfl (by simp[AI,AV,hsa.1,hpo.1]))),Az rq8,BJ rq9 (fun _=>F6 (by rw[BG (by omega) (by omega)];omega)),Cq rfl rfl (gy rfl rfl rfl) (oy rfl rfl) (oy rfl rfl) (fun w=>CU Tryz.underlying34 (by kernel_rfl) (hr.1.1) (by omega) (rfl) w) (fun _=>rfl),BX rq9 (fun _=>by kernel_rfl),Aq rq9 (fun _ g=>Ab (B6 y.o y.ho.1) (RdK.ownerX (hr.kn g) rfl hp hx_y)),BX rq9 (fun _=>by kernel_rfl),Aq rq9 (fun _ g=>Ab (EP (.slice ao ks.length cap) rfl) (Bl (L:=[bv sa,bv po,[.slice ao ks.length cap]]) (i:=2) (AF g Aa (by simp)) rfl (by simp[AI,AV,hsa.1,hpo.1]))),Az rq8,Cq rfl rfl (gy rfl rfl rfl) (oy rfl rfl) (oy rfl rfl) (fun w=>CU Tryz.underlying34 (by kernel_rfl) (hr.1.1) (by omega) (rfl) w) (fun _=>rfl),BX rq9 (fun _=>by kernel_rfl),Aq rq9 (fun _ g=>Ab (B6 x.o x.ho.1) (RdK.ownerX (hr.kn g) rfl hi hx_x)),B7 [AP y.o,AP x.o] Tryz.func86 (by kernel_rfl) r7 ⟨(oy rfl rfl),(oy rfl rfl),AL5⟩ (Ap fun W g=>Mj hc y.ho x.ho W),Ha rfl rfl (gy rfl rfl rfl) (oy rfl rfl) (fun _=>Bf) (fun _=>rfl),Iv rfl rfl (gy rfl rfl rfl) (oy rfl rfl) (oy rfl rfl) (fun _=>rfl),A2 rq9,AL5⟩ fun a33 w33 g33 JU=>?_
       refine k20 _ _ ?_
       refine Aw JU rfl rfl ?_
       refine ALz fun K34 k34=>?_
       refine ALy ?_
       refine AY (v:=.bool false) JU r6 fun a35 Ki=>?_
       refine AE ?_
       refine k34 _ _ ?_
       replace Aa:=AC g33 Aa
       replace hr:=hr.kn g33
       replace HG:=AA HG g33
       refine AL2 ?_
       repeat refine AL ?_
       refine r19 _ _ ?_
       repeat refine AL ?_
       refine r13 _ _ ?_
       repeat refine AL ?_
       refine BI (fn:=Tryz.f40) Ki (BC (p:=2) Tryz.results40 Ki rfl rfl) ?_
       exact⟨Hd ((Iy (i:=i) (by rw[hmap];exact hi) (by rw[hchk];simp[hv,hc,Nat.ne_of_gt hz])).symm),HG⟩
     · refine DM FY [(15,pk CI 64),(16,.slice ao ks.length cap),(17,.int .i64 ((i:Int))),(18,pk ((bO ao)) (oO ao+i*33)),(19,pk ((bO ao)) (oO ao+i*33+32)),(20,.agg #[VK.s x]),(21,.bool false),(22,.bool true),(23,.bool true),(24,undef),(25,undef),(26,undef),(27,undef),(28,undef),(29,undef),(30,undef),(31,undef),(32,undef),(33,undef),(34,undef),(35,undef),(36,undef),(37,undef),(38,undef),(39,undef),(40,undef),(41,undef),(42,undef),(43,.bool true)]
        ⟨yf r6 (fun _=>by kernel_rfl),yp (i:=2) r6 (EP (.slice ao ks.length cap) rfl) Aa rfl (by simp[AI,AV,hsa.1,hpo.1]),ym r5,BA rq8 (fun w=>CU Tryz.underlying34 (by kernel_rfl) (hr.1.1) (by omega) (rfl) w),yf r6 (fun _=>by kernel_rfl),Bu r6 (fun _ g=>Ab (PQ (VK.s x) rfl) (RdK.treeX (hr.kn g) rfl hi hx_x)),Ae [.agg #[VK.s x]] Tryz.func87 (by kernel_rfl) rq4 ⟨(oy rfl rfl),AL5⟩ (Ap fun W g=>FI hv ((hr.kn g).kt hi hx_x)),DG r6 (fun _=>Bf),ym r5,AZ r6,AZ r6,AZ r6,BB ⟨26,rfl,rfl,fun _ _ h=>h⟩ rfl (fun _=>rfl),BB ⟨26,rfl,rfl,fun _ _ h=>h⟩ rfl (fun _=>rfl),BB ⟨26,rfl,rfl,fun _ _ h=>h⟩ rfl (fun _=>rfl),BB ⟨26,rfl,rfl,fun _ _ h=>h⟩ rfl (fun _=>rfl),BB ⟨26,rfl,rfl,fun _ _ h=>h⟩ rfl (fun _=>rfl),BB ⟨26,rfl,rfl,fun _ _ h=>h⟩ rfl (fun _=>rfl),BB ⟨26,rfl,rfl,fun _ _ h=>h⟩ rfl (fun _=>rfl),BB ⟨26,rfl,rfl,fun _ _ h=>h⟩ rfl (fun _=>rfl),BB ⟨26,rfl,rfl,fun _ _ h=>h⟩ rfl (fun _=>rfl),BB ⟨26,rfl,rfl,fun _ _ h=>h⟩ rfl (fun _=>rfl),BB ⟨26,rfl,rfl,fun _ _ h=>h⟩ rfl (fun _=>rfl),BB ⟨26,rfl,rfl,fun _ _ h=>h⟩ rfl (fun _=>rfl),BB ⟨26,rfl,rfl,fun _ _ h=>h⟩ rfl (fun _=>rfl),BB ⟨26,rfl,rfl,fun _ _ h=>h⟩ rfl (fun _=>rfl),BB ⟨26,rfl,rfl,fun _ _ h=>h⟩ rfl (fun _=>rfl),AZ r6,CL r7,AL5⟩ fun a36 w36 g36 Fw=>?_
       refine k20 _ _ ?_
       refine Aw Fw rfl rfl ?_
       refine ALz fun K37 k37=>?_
       refine ALy ?_
       refine AY (v:=.bool false) Fw r6 fun a38 Z7=>?_
       refine AE ?_
       refine k37 _ _ ?_
       replace Aa:=AC g36 Aa
       replace HG:=AA HG g36
       refine AL2 ?_
       repeat refine AL ?_
       refine r19 _ _ ?_
       repeat refine AL ?_
       refine r13 _ _ ?_
       repeat refine AL ?_
       refine BI (fn:=Tryz.f40) Z7 (BC (p:=2) Tryz.results40 Z7 rfl rfl) ?_
       exact⟨Hd ((Iy (i:=i) (by rw[hmap];exact hi) (by rw[hchk];simp[hv,hc,Nat.ne_of_gt hz])).symm),HG⟩
   · refine ALy ?_
     refine AJ Da 5 [(8,.int .i64 ((i:Int))),(9,pk CI 64),(10,.slice ao ks.length cap),(11,.int .i64 ((ks.length:Nat))),(12,.bool false)]
       ⟨ym r5,yf r6 (fun _=>by kernel_rfl),yp (i:=2) r6 (EP (.slice ao ks.length cap) rfl) Aa rfl (by simp[AI,AV,hsa.1,hpo.1]),Bv (Tryz.underlying34) rfl rfl trivial (oy rfl rfl) (fun _=>rfl),Il r7 (fun _=>Bo (by simp;omega)),AL5⟩ fun a39 w39 g39 JV=>?_
     refine AE ?_
     refine k16 _ _ ?_
     refine A1 JV rfl rfl ?_
     refine wp_exit ?_
     repeat refine CY ?_
     refine x13 _ _ ?_
     refine k10 _ _ ?_
     refine ALz fun K40 k40=>?_
     refine ALy ?_
     refine AY (v:=.bool true) JV r6 fun a41 OB=>?_
     refine AE ?_
     refine k40 _ _ ?_
     replace HG:=AA HG g39
     refine AL2 ?_
     repeat refine AL ?_
     refine BI (fn:=Tryz.f40) OB (BC (p:=2) Tryz.results40 OB rfl rfl) ?_
     exact⟨Hd ((Xr (by omega) fun k hk=>hb k (by omega)).symm),HG⟩
end Go.Proofs.YtbfjfnbcmojpiaaGreat
