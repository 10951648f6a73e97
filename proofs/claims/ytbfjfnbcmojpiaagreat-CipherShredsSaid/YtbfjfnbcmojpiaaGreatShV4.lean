import Derived.Test.YtbfjfnbcmojpiaaGreatShV3
set_option linter.unusedSimpArgs false
set_option linter.unusedVariables false
set_option maxRecDepth 100000
set_option maxHeartbeats 4000000
namespace Go.Proofs.YtbfjfnbcmojpiaaGreat
open Go.RowKit Go.Shelf
theorem Bz {P:Program} {f:Nat} {fn:Func} {c:Code} (hf:P.funcs[f]?=some fn) (hname:(fn.name == "runtime.NumGoroutine")=false) (hb:fn.body=some c) (cap:Array Value) (w:World) :
  (invoke (.fn (.func f) cap) #[]).run P w=.ok (.enter f cap) w:=by
 have h1:fn.name≠"runtime.NumGoroutine":=by simpa using hname
 simp[invoke,callFunc,hf,h1,hb]
theorem PT (w:World):CallsD Tryz.prog 65 #[] .returning w fun e u' w'=>e=.returned (.tuple #[])∧u'=.returning∧w'=w:=by
 refine callsD_of_wpS Tryz.func65 rfl fun c₀ cs hu=>?_
 apply wpS_region
 simp[wpOpsS,go_sem,recoverD,hu,Tryz.ntmps65]
 cases c₀
 simp_all [bodyPostS,results,Tryz.results65]
theorem C9 (w:World):CallsD Tryz.prog 95 #[] .returning w fun e u' w'=>e=.returned (.tuple #[])∧u'=.returning∧w'=w:=by
 refine callsD_of_wpS Tryz.func95 rfl fun c₀ cs hu=>?_
 apply wpS_region
 simp[wpOpsS,go_sem,recoverD,hu,Tryz.ntmps95]
 cases c₀
 simp_all [bodyPostS,results,Tryz.results95]
theorem GI (p q:Value) (w:World):CallsD Tryz.prog 81 #[p,q] .returning w fun e u' w'=>e=.returned (.tuple #[])∧u'=.returning∧w'=w:=by
 refine callsD_of_wpS Tryz.func81 rfl fun c₀ cs hu=>?_
 apply wpS_seq
 apply wpS_region
 simp[wpOpsS,go_sem,recoverD,hu,Tryz.ntmps81,Exit.thenS]
 refine wpS_cond (t:=false) (by simp[Act.eval,Array.replicate]) ?_
 simp only[Bool.false_eq_true,if_false]
 refine wpS_of_wp (ALs ?_)
 cases c₀
 simp_all [bodyPostS,results,Tryz.results81]
theorem JZ (p q:Value) (w:World):CallsD Tryz.prog 77 #[p,q] .returning w fun e u' w'=>e=.returned (.tuple #[])∧u'=.returning∧w'=w:=by
 refine callsD_of_wpS Tryz.func77 rfl fun c₀ cs hu=>?_
 apply wpS_seq
 apply wpS_region
 simp[wpOpsS,go_sem,recoverD,hu,Tryz.ntmps77,Exit.thenS]
 refine wpS_cond (t:=false) (by simp[Act.eval,Array.replicate]) ?_
 simp only[Bool.false_eq_true,if_false]
 refine wpS_of_wp (ALs ?_)
 cases c₀
 simp_all [bodyPostS,results,Tryz.results77]
theorem Fe (p q:Value) (w:World):CallsD Tryz.prog 74 #[p,q] .returning w fun e u' w'=>e=.returned (.tuple #[])∧u'=.returning∧w'=w:=by
 refine callsD_of_wpS Tryz.func74 rfl fun c₀ cs hu=>?_
 apply wpS_seq
 apply wpS_region
 simp[wpOpsS,go_sem,recoverD,hu,Tryz.ntmps74,Exit.thenS]
 refine wpS_cond (t:=false) (by simp[Act.eval,Array.replicate]) ?_
 simp only[Bool.false_eq_true,if_false]
 refine wpS_of_wp (ALs ?_)
 cases c₀
 simp_all [bodyPostS,results,Tryz.results74]
theorem Ja {w:World} {s:Value} {l:List Nd} {b:Bool} (hb:Gh l=b) (h:RdT w s l):Calls Tryz.prog 97 #[.agg #[s]] w fun e w'=>e=.returned (.bool b)∧w.grownBy w' none:=hb▸Zt h
theorem FO {w:World} {s:Value} {l:List Nd} {b:Bool} (hb:Gh l=b) (h:RdT w s l):Calls Tryz.prog 87 #[.agg #[s]] w fun e w'=>e=.returned (.bool b)∧w.grownBy w' none:=hb▸XU h
theorem Ht {a b:Bool} (h:a=b):Ending.returned (.bool a)=Ending.returned (.bool b):=by rw[h]
theorem AJ0 {a b:Int} (h:a=b):Ending.returned (.int .i64 a)=Ending.returned (.int .i64 b):=by rw[h]
theorem RdK.kt {w:World} {v:Value} {ks:List VK} (h:RdK w v ks) {j:Nat} (hj:j<ks.length) {x:VK} (hx:ks[j]=x):RdT w x.s x.l:=h.2 x (hx▸List.getElem_mem hj)
theorem AHt {ks:List VK} {i:Nat} {x y:VK} (hi:i<ks.length) (hp:i-1<ks.length) (hx:ks[i]=x) (hy:ks[i-1]=y):chk (ks.map VK.p) i=((decide (i=0)||Es y.o x.o)&&Gh x.l):=by
 unfold chk
 rw[PR hi,PR hp,VO hi,hx,hy]
theorem ACi (ks:List VK) (ao:Option Addr) (cap:Nat) (sa po:List Nat) (hsa:Dg sa) (hpo:Dg po) (o:List Nat) (ho:Dg o) (w:World) (hr:RdK w (.slice ao ks.length cap) ks) (hs:Srt (ks.map VK.p)) (h64:ks.length≤64) :
  Calls Tryz.prog 71 #[Ao sa po (.slice ao ks.length cap),AP o] w fun e w'=>e=.returned (.tuple #[.int .i64 (pos (ks.map VK.p) o),.bool (IT (ks.map VK.p) o)])∧w.grownBy w' none:=by
 refine Bg Tryz.func71 rfl Tryz.ntmps71 rfl fun a0 sv0=>?_
 have HG:=World.grownBy.refl w none
 replace sv0:Sv 12 [] [(0,Ao sa po (.slice ao ks.length cap)),(1,AP o)] a0:=sv0
 refine ALo fun K1 k1=>?_
 refine ALn ?_
 refine Bn sv0 r6 (BX hsa hpo (.slice ao ks.length cap) rfl) fun a2 w2 Cp Ds g2 z2 AK sv2=>?_
 refine Bn sv2 r6 (CD o ho.1) fun a3 w3 Cc Fl g3 z3 AN sv3=>?_
 replace AK:=AC g3 AK
 replace hr:=(hr.kn g2).kn g3
 refine Aa (v:=.int .i64 0) sv3 r6 fun a4 sv4=>?_
 refine Aa (v:=.bool false) sv4 r6 fun a5 sv5=>?_
 refine AE ?_
 refine k1 _ _ ?_
 refine ALo fun K6 k6=>?_
 refine ALn ?_
 refine AI sv5 6 [(6,pk Cp 64),(7,.slice ao ks.length cap),(8,AP o),(9,.tuple #[.int .i64 ((pos (ks.map VK.p) o:Int)),.bool (IT (ks.map VK.p) o)]),(10,.int .i64 ((pos (ks.map VK.p) o:Int))),(11,.bool (IT (ks.map VK.p) o))]
  ⟨yf r6 (fun _=>by kernel_rfl),yp (i:=2) r6 (Eb (.slice ao ks.length cap) rfl) AK rfl (by simp[AJ,AU,hsa.1,hpo.1]),yl r6 (CD o ho.1) AN,Ae [.slice ao ks.length cap,AP o,.func (.func 96) #[] #[]] Tryz.func113 (by kernel_rfl) rq4 ⟨(oy rfl rfl),(oy rfl rfl),rfl,ALu⟩ (Au fun W g=>VS ks ao cap o ho W (hr.kn g) hs h64),BC rq4 (fun _ _ h=>⟨_,_,h,rfl,rfl⟩),BC rq4 (fun _ _ h=>⟨_,_,h,rfl,rfl⟩),ALu⟩ fun a7 w7 g7 sv7=>?_
 refine Aa (v:=.int .i64 ((pos (ks.map VK.p) o:Int))) sv7 r6 fun a8 sv8=>?_
 refine Aa (v:=.bool (IT (ks.map VK.p) o)) sv8 r6 fun a9 sv9=>?_
 have Ci:Sv _ _ [_,_,_,_] _:=sv9.dl [6,7,8,9,10,11,3,2]
 refine AE ?_
 refine k6 _ _ ?_
 replace HG:=AA (AA (AA HG g2) g3) g7
 refine ALr ?_
 repeat refine AL ?_
 refine BH (fn:=Tryz.f71) Ci (Rj (p:=4) (q:=5) Tryz.results71 Ci rfl rfl rfl rfl) ?_
 exact⟨rfl,HG⟩
theorem AGr (ks:List VK) (ao:Option Addr) (cap:Nat) (sa po:List Nat) (hsa:Dg sa) (hpo:Dg po) (o:List Nat) (ho:Dg o) (w:World) (hr:RdK w (.slice ao ks.length cap) ks) (hs:Srt (ks.map VK.p)) :
   Calls Tryz.prog 84 #[Ao sa po (.slice ao ks.length cap),AP o] w fun e w'=>e=.returned (.int .i64 (atV (ks.map VK.p) o))∧w.grownBy w' none:=by
 have hlen:=hr.len
 have hmap:(ks.map VK.p).length=ks.length:=List.length_map _
 refine Bg Tryz.func84 rfl Tryz.ntmps84 rfl fun a0 sv0=>?_
 have HG:=World.grownBy.refl w none
 replace sv0:Sv 22 [] [(0,Ao sa po (.slice ao ks.length cap)),(1,AP o)] a0:=sv0
 refine ALo fun K1 k1=>?_
 refine ALn ?_
 refine Bn sv0 r6 (BX hsa hpo (.slice ao ks.length cap) rfl) fun a2 w2 Cp Ds g2 z2 AK sv2=>?_
 refine Bn sv2 r6 (CD o ho.1) fun a3 w3 Cc Fl g3 z3 AN sv3=>?_
 replace AK:=AC g3 AK
 replace hr:=(hr.kn g2).kn g3
 replace HG:=AA (AA HG g2) g3
 refine Aa (v:=.int .i64 0) sv3 r6 fun a4 sv4=>?_
 refine AE ?_
 refine k1 _ _ ?_
 refine ALo fun K5 k5=>?_
 refine ALo fun K6 k6=>?_
 refine ALn ?_
 refine Aa (v:=.int .i64 0) sv4 r6 fun a7 sv7=>?_
 refine AE ?_
 refine k6 _ _ ?_
 refine BM fun Q8 x8 y8 r8 o8=>?_
 refine wp_loop (fun a w'=>∃(i:Nat),(i≤ks.length)∧(∀k,k<i→od (ks.map VK.p) k≠o)∧Sv 22 [] [(5,.int .i64 ((i:Int))),(3,pt Cc),(2,pt Cp),(0,Ao sa po (.slice ao ks.length cap)),(1,AP o)] a∧w.grownBy w' none∧w'.heap[Cp]?=some (.cells ([bv sa,bv po,[.slice ao ks.length cap]].flatten).toArray 36 (0,0))∧w'.heap[Cc]?=some (.cells (bv o).toArray 23 (0,0))∧RdK w' (.slice ao ks.length cap) ks) (fun a _=>(ks.length-intOf (a.tmps.getD 5 undef)).toNat) ⟨0,Nat.zero_le _,fun k hk=>by omega,⟨sv7.1,sv7.2.1,sv7.2.2.1,sv7.2.2.2.2.1,sv7.2.2.2.2.2.1,sv7.2.2.2.2.2.2.1,sv7.2.2.2.2.2.2.2.1,ALu⟩,HG,AK,AN,hr⟩ fun a9 w9 hI9=>?_
 clear AK
 clear AN
 clear hr
 clear HG
 obtain⟨i,hin,hb,sv9,HG,AK,AN,hr⟩:=hI9
 refine ALo fun K10 k10=>?_
 refine ALo fun K11 k11=>?_
 by_cases hi:i<ks.length
 · obtain⟨x,hx_x⟩:∃x,ks[i]'hi=x:=⟨_,rfl⟩
   have hod:od (ks.map VK.p) i=x.o:=by rw[PR hi,hx_x]
   refine ALn ?_
   refine AI sv9 5 [(6,.int .i64 ((i:Int))),(7,pk Cp 64),(8,.slice ao ks.length cap),(9,.int .i64 ((ks.length:Nat))),(10,.bool true)]
     ⟨ym r5,yf r6 (fun _=>by kernel_rfl),yp (i:=2) r6 (Eb (.slice ao ks.length cap) rfl) AK rfl (by simp[AJ,AU,hsa.1,hpo.1]),CB (Tryz.underlying34) rfl rfl trivial (oy rfl rfl) (fun _=>rfl),Hc r7 (fun _=>Bv (by simp;omega)),ALu⟩ fun a12 w12 g12 DX=>?_
   refine AE ?_
   refine k11 _ _ ?_
   refine Ay DX rfl rfl ?_
   refine ALs ?_
   refine k10 _ _ ?_
   refine ALo fun K13 k13=>?_
   refine BM fun Q14 x14 y14 r14 o14=>?_
   refine ALo fun K15 k15=>?_
   replace AK:=AC g12 AK
   replace AN:=AC g12 AN
   replace hr:=hr.kn g12
   replace HG:=AA HG g12
   by_cases heq:x.o=o
   · have hyes:=OA hs (by omega) (hod.trans heq)
     refine Ck DX [(13,pk Cp 64),(14,.slice ao ks.length cap),(15,.int .i64 ((i:Int))),(16,pk ((bO ao)) (oO ao+i*33)),(17,pk ((bO ao)) (oO ao+i*33)),(18,AP x.o),(19,AP o),(20,.bool true)]
      ⟨yf r6 (fun _=>by kernel_rfl),yp (i:=2) r6 (Eb (.slice ao ks.length cap) rfl) AK rfl (by simp[AJ,AU,hsa.1,hpo.1]),ym r5,BV rq8 (fun w=>Ce Tryz.underlying34 (by kernel_rfl) (hr.1.1) (by omega) (rfl) w),yf r6 (fun _=>by kernel_rfl),CE r6 (fun _ g=>Ac (CD x.o x.ho.1) (RdK.ownerX (hr.kn g) rfl hi hx_x)),yl r6 (CD o ho.1) AN,Hc r7 (fun _=>(Mi x.ho ho _ _ _).1.trans (by rw[decide_eq_true (heq)])),ALu⟩ fun a16 w16 g16 Cu=>?_
     refine k15 _ _ ?_
     refine Ay Cu rfl rfl ?_
     refine ALo fun K17 k17=>?_
     refine ALn ?_
     refine AI Cu 1 [(21,.int .i64 ((i:Int)))]
      ⟨ym r5,ALu⟩ fun a18 w18 g18 CU=>?_
     have AGs:=AA g16 g18
     refine Aa (v:=.int .i64 ((i:Int))) CU r6 fun a19 E3=>?_
     refine AE ?_
     refine k17 _ _ ?_
     replace AK:=AC AGs AK
     replace AN:=AC AGs AN
     replace hr:=hr.kn AGs
     replace HG:=AA HG AGs
     refine ALr ?_
     repeat refine AL ?_
     refine r14 _ _ ?_
     repeat refine AL ?_
     refine r8 _ _ ?_
     repeat refine AL ?_
     refine BH (fn:=Tryz.f84) E3 (BD (p:=4) Tryz.results84 E3 rfl rfl) ?_
     exact⟨AJ0 (by unfold atV;rw[hyes.1,hyes.2];rfl),HG⟩
   · have hne:=heq
     refine Ck DX [(13,pk Cp 64),(14,.slice ao ks.length cap),(15,.int .i64 ((i:Int))),(16,pk ((bO ao)) (oO ao+i*33)),(17,pk ((bO ao)) (oO ao+i*33)),(18,AP x.o),(19,AP o),(20,.bool false)]
      ⟨yf r6 (fun _=>by kernel_rfl),yp (i:=2) r6 (Eb (.slice ao ks.length cap) rfl) AK rfl (by simp[AJ,AU,hsa.1,hpo.1]),ym r5,BV rq8 (fun w=>Ce Tryz.underlying34 (by kernel_rfl) (hr.1.1) (by omega) (rfl) w),yf r6 (fun _=>by kernel_rfl),CE r6 (fun _ g=>Ac (CD x.o x.ho.1) (RdK.ownerX (hr.kn g) rfl hi hx_x)),yl r6 (CD o ho.1) AN,Hc r7 (fun _=>(Mi x.ho ho _ _ _).1.trans (by rw[decide_eq_false (heq)])),ALu⟩ fun a20 w20 g20 FA=>?_
     refine k15 _ _ ?_
     refine Az FA rfl rfl ?_
     refine ALs ?_
     refine y14 _ _ ?_
     refine k13 _ _ ?_
     refine ALn ?_
     refine AI FA 2 [(11,.int .i64 ((i:Int))),(12,.int .i64 (((i+1:Nat):Int)))]
      ⟨ym r5,CQ r6 (fun _=>DV (by rw[BG (by omega) (by omega)];omega)),ALu⟩ fun a21 w21 g21 Da=>?_
     have AGt:=AA g20 g21
     refine Aa (v:=.int .i64 (((i+1:Nat):Int))) Da r6 fun a22 Cw=>?_
     refine AE ?_
     replace AK:=AC AGt AK
     replace AN:=AC AGt AN
     replace hr:=hr.kn AGt
     replace HG:=AA HG AGt
     exact⟨⟨i+1,by omega,fun k hk=>if e:k=i then (by rw[e,hod];exact hne) else hb k (by omega),⟨Cw.1,Cw.2.1,Cw.2.2.1,(AH (AH Cw)).2.2.1,(AH (AH Cw)).2.2.2.1,(AH (AH Cw)).2.2.2.2.1,(AH (AH Cw)).2.2.2.2.2.1,ALu⟩,HG,AK,AN,hr⟩,by rw[show _=_ from Cw.2.2.1,show _=_ from sv9.2.2.1];simp[intOf];omega⟩
 · have hno:IT (ks.map VK.p) o=false:=AIq fun k hk=>hb k (by omega)
   refine ALn ?_
   refine AI sv9 5 [(6,.int .i64 ((i:Int))),(7,pk Cp 64),(8,.slice ao ks.length cap),(9,.int .i64 ((ks.length:Nat))),(10,.bool false)]
     ⟨ym r5,yf r6 (fun _=>by kernel_rfl),yp (i:=2) r6 (Eb (.slice ao ks.length cap) rfl) AK rfl (by simp[AJ,AU,hsa.1,hpo.1]),CB (Tryz.underlying34) rfl rfl trivial (oy rfl rfl) (fun _=>rfl),Hc r7 (fun _=>Bv (by simp;omega)),ALu⟩ fun a23 w23 g23 Cz=>?_
   refine AE ?_
   refine k11 _ _ ?_
   refine Az Cz rfl rfl ?_
   refine wp_exit ?_
   repeat refine CW ?_
   refine x8 _ _ ?_
   refine k5 _ _ ?_
   refine ALo fun K24 k24=>?_
   refine ALn ?_
   refine Aa (v:=.int .i64 (-1)) Cz r6 fun a25 DY=>?_
   refine AE ?_
   refine k24 _ _ ?_
   replace HG:=AA HG g23
   refine ALr ?_
   repeat refine AL ?_
   refine BH (fn:=Tryz.f84) DY (BD (p:=4) Tryz.results84 DY rfl rfl) ?_
   exact⟨AJ0 (by unfold atV;rw[hno];rfl),HG⟩
theorem Nb {x y:List Nat} {b:Bool} (hb:Es x y=b) (hx:Dg x) (hy:Dg y) (w:World):Calls Tryz.prog 86 #[AP x,AP y] w fun e w'=>e=.returned (.bool b)∧w.grownBy w' none:=hb▸ACh x y hx hy w
theorem Xm (ks:List VK) (ao:Option Addr) (cap:Nat) (sa po:List Nat) (hsa:Dg sa) (hpo:Dg po) (w:World) (hr:RdK w (.slice ao ks.length cap) ks) :
   Calls Tryz.prog 51 #[Ao sa po (.slice ao ks.length cap)] w fun e w'=>e=.returned (.bool (CH (ks.map VK.p)))∧w.grownBy w' none:=by
 have hlen:=hr.len
 have hmap:(ks.map VK.p).length=ks.length:=List.length_map _
 refine Dv Tryz.func51 rfl Tryz.ntmps51 rfl fun a0 sv0=>?_
 have HG:=World.grownBy.refl w none
 replace sv0:Sv 38 [] [(0,Ao sa po (.slice ao ks.length cap))] a0:=sv0
 refine ALo fun K1 k1=>?_
 refine ALn ?_
 refine Bn sv0 r6 (BX hsa hpo (.slice ao ks.length cap) rfl) fun a2 w2 CO GJ g2 z2 Ad sv2=>?_
 replace hr:=hr.kn g2
 replace HG:=AA HG g2
 refine Aa (v:=.bool false) sv2 r6 fun a3 sv3=>?_
 refine AE ?_
 refine k1 _ _ ?_
 refine ALo fun K4 k4=>?_
 refine ALn ?_
 refine Er sv3 rfl (dd:={ target:=.fn (.func 95) #[],args:=#[] }) rfl (by simp[execOp,resolve,Deferred.ofValue];try rfl) fun a5 sv5=>?_
 refine AE ?_
 refine k4 _ _ ?_
 refine ALo fun K6 k6=>?_
 refine ALo fun K7 k7=>?_
 by_cases hbig:64<ks.length
 · refine ALn ?_
   refine AI sv5 4 [(5,pk CO 64),(6,.slice ao ks.length cap),(7,.int .i64 ((ks.length:Nat))),(8,.bool true)]
     ⟨yf r6 (fun _=>by kernel_rfl),yp (i:=2) r6 (Eb (.slice ao ks.length cap) rfl) Ad rfl (by simp[AJ,AU,hsa.1,hpo.1]),CB (Tryz.underlying34) rfl rfl trivial (oy rfl rfl) (fun _=>rfl),CQ r6 (fun _=>DQ (by simp;omega)),ALu⟩ fun a8 w8 g8 sv8=>?_
   refine AE ?_
   refine k7 _ _ ?_
   refine Ay sv8 rfl rfl ?_
   refine ALo fun K9 k9=>?_
   refine ALn ?_
   refine Aa (v:=.bool false) sv8 r6 fun a10 Ci=>?_
   refine AE ?_
   refine k9 _ _ ?_
   replace Ad:=AC g8 Ad
   replace hr:=hr.kn g8
   replace HG:=AA HG g8
   refine ALr ?_
   repeat refine AL ?_
   refine BU (fn:=Tryz.f51) Ci (BD (p:=2) Tryz.results51 Ci rfl rfl) (Bz Tryz.func95 (by kernel_rfl) rfl _ _) (C9 _) ?_
   exact⟨Ht ((Xn (by omega)).symm),HG⟩
 · refine ALn ?_
   refine AI sv5 4 [(5,pk CO 64),(6,.slice ao ks.length cap),(7,.int .i64 ((ks.length:Nat))),(8,.bool false)]
     ⟨yf r6 (fun _=>by kernel_rfl),yp (i:=2) r6 (Eb (.slice ao ks.length cap) rfl) Ad rfl (by simp[AJ,AU,hsa.1,hpo.1]),CB (Tryz.underlying34) rfl rfl trivial (oy rfl rfl) (fun _=>rfl),CQ r6 (fun _=>DQ (by simp;omega)),ALu⟩ fun a11 w11 g11 CV=>?_
   refine AE ?_
   refine k7 _ _ ?_
   refine Az CV rfl rfl ?_
   refine ALs ?_
   refine k6 _ _ ?_
   refine ALo fun K12 k12=>?_
   refine ALo fun K13 k13=>?_
   refine ALn ?_
   refine AI CV 4 [(9,pk CO 64),(10,.slice ao ks.length cap),(11,.int .i64 ((ks.length:Nat))),(12,.int .i64 0)]
     ⟨yf r6 (fun _=>by kernel_rfl),yp (i:=2) r6 (Eb (.slice ao ks.length cap) rfl) (AC g11 Ad) rfl (by simp[AJ,AU,hsa.1,hpo.1]),CB (Tryz.underlying34) rfl rfl trivial (oy rfl rfl) (fun _=>rfl),FE (.inl rfl) rfl trivial (fun _=>rfl),ALu⟩ fun a14 w14 g14 Db=>?_
   have Xo:=AA g11 g14
   refine AE ?_
   refine k13 _ _ ?_
   refine BM fun Q15 x15 y15 r15 o15=>?_
   replace Ad:=AC Xo Ad
   replace hr:=hr.kn Xo
   replace HG:=AA HG Xo
   refine wp_loop (fun a w'=>∃(i:Nat),(i≤ks.length)∧(∀k,k<i→chk (ks.map VK.p) k=true)∧Sv 38 [{ target:=.fn (.func 95) #[],args:=#[] }] [(12,.int .i64 ((i:Int))),(9,pk CO 64),(10,.slice ao ks.length cap),(11,.int .i64 ((ks.length:Nat))),(5,pk CO 64),(6,.slice ao ks.length cap),(7,.int .i64 ((ks.length:Nat))),(8,.bool false),(1,pt CO),(0,Ao sa po (.slice ao ks.length cap))] a∧w.grownBy w' none∧w'.heap[CO]?=some (.cells ([bv sa,bv po,[.slice ao ks.length cap]].flatten).toArray 36 (0,0))∧RdK w' (.slice ao ks.length cap) ks) (fun a _=>(ks.length-intOf (a.tmps.getD 12 undef)).toNat) ⟨0,Nat.zero_le _,fun k hk=>by omega,⟨Db.1,Db.2.1,Db.2.2.2.2.2.1,Db.2.2.1,Db.2.2.2.1,Db.2.2.2.2.1,Db.2.2.2.2.2.2.1,Db.2.2.2.2.2.2.2.1,(AH Db).1,(AH Db).2.1,(AH Db).2.2.2.1,(AH Db).2.2.2.2.1,ALu⟩,HG,Ad,hr⟩ fun a16 w16 hI16=>?_
   clear Ad
   clear hr
   clear HG
   obtain⟨i,hin,hb,Cu,HG,Ad,hr⟩:=hI16
   refine ALo fun K17 k17=>?_
   by_cases hi:i<ks.length
   · have hp:i-1<ks.length:=by omega
     obtain⟨x,hx_x⟩:∃x,ks[i]'hi=x:=⟨_,rfl⟩
     obtain⟨y,hx_y⟩:∃x,ks[(i-1)]'hp=x:=⟨_,rfl⟩
     have hchk:=AHt hi hp hx_x hx_y
     refine ALn ?_
     refine AI Cu 1 [(13,.bool true)]
       ⟨Hc r7 (fun _=>Bv (by simp;omega)),ALu⟩ fun a18 w18 g18 CU=>?_
     refine AE ?_
     refine k17 _ _ ?_
     refine ALo fun K19 k19=>?_
     refine Ay CU rfl rfl ?_
     refine ALs ?_
     refine k19 _ _ ?_
     refine ALo fun K20 k20=>?_
     refine BM fun Q21 x21 y21 r21 o21=>?_
     refine ALo fun K22 k22=>?_
     refine ALn ?_
     replace hr:=hr.kn g18
     refine AI CU 3 [(14,.int .i64 ((i:Int))),(15,pk ((bO ao)) (oO ao+i*33)),(16,IA x)]
       ⟨ym r5,BV rq8 (fun w=>Ce Tryz.underlying34 (by kernel_rfl) (hr.1.1) (by omega) (rfl) w),CE r6 (fun _ g=>Ac (VN x) (RdK.keyX (hr.kn g) rfl hi hx_x)),ALu⟩ fun a23 w23 g23 Cz=>?_
     replace Ad:=AC g23 (AC g18 Ad)
     replace hr:=hr.kn g23
     replace HG:=AA (AA HG g18) g23
     refine Av (T:=58) (Z:=([bv AQ,[.slice none 0 0]].flatten)) Cz rfl rfl rfl (fun a w=>by kernel_rfl) fun a24 w24 P9 Rm g24 z24 EH CI=>?_
     have TU:=Ar Ad Rm
     have AEi:=Bt HG Rm
     have Xp:=A1 (hr.lt) Rm
     refine Aa (v:=.int .i64 ((i:Int))) CI r6 fun a25 DY=>?_
     refine As DY r7 (VN x) EH (by first|rfl|simp[Ag,AJ,AU,x.ho.1]) fun w26 g26 h26=>?_
     replace Ad:=AY g26 (AC g24 Ad) (Ne.symm TU)
     replace hr:=(hr.kn g24).offR g26 (AV Xp)
     replace HG:=AD (AA HG g24) g26 AEi
     replace EH:=h26
     refine AE ?_
     refine k22 _ _ ?_
     refine ALo fun K27 k27=>?_
     rcases(show(i=0∧Gh x.l=true)∨(i=0∧Gh x.l=false)∨(0<i∧Es y.o x.o=true∧Gh x.l=true)∨(0<i∧Es y.o x.o=true∧Gh x.l=false)∨(0<i∧Es y.o x.o=false∧Gh x.l=true)∨(0<i∧Es y.o x.o=false∧Gh x.l=false) by
        rcases Nat.eq_zero_or_pos i with h|h<;>cases h2:Gh x.l<;>cases h3:Es y.o x.o<;>simp[h]) with ⟨hz,hv⟩|⟨hz,hv⟩|⟨hz,hc,hv⟩|⟨hz,hc,hv⟩|⟨hz,hc,hv⟩|⟨hz,hc,hv⟩
     · have hok:((decide (i=0)||Es y.o x.o)&&Gh x.l)=true:=by simp[hz,hv]
       refine Ck DY [(17,.int .i64 ((i:Int))),(18,.bool false),(19,.bool false),(20,undef),(21,undef),(22,undef),(23,undef),(24,undef),(25,undef),(26,undef),(27,undef),(28,undef),(29,undef),(30,.bool false),(31,.bool false),(32,pk P9 32),(33,.agg #[VK.s x]),(34,.bool true),(35,.bool false),(36,.bool false)]
        ⟨ym r5,CQ r6 (fun _=>DQ (by simp;omega)),ym r5,AX r6,AX r6,AX r6,AX r6,AX r6,AX r6,AX r6,AX r6,AX r6,AX r6,B8 r7,ym r5,BE rq9 (fun _=>by kernel_rfl),Ap rq9 (fun _ g=>Ac (QK (VK.s x) rfl) (BF (L:=[bv x.o,[VK.s x]]) (i:=1) (AF g EH (by simp)) rfl (by simp[AJ,AU,x.ho.1]))),Bf [.agg #[VK.s x]] Tryz.func97 (by kernel_rfl) r7 ⟨(oy rfl rfl),ALu⟩ (Au fun W g=>Ja hv ((hr.kn g).kt hi hx_x)),Fc rfl rfl (gy rfl rfl rfl) (oy rfl rfl) (fun _=>BJ) (fun _=>rfl),Ax rq9,ALu⟩ fun a28 w28 g28 L8=>?_
       refine k27 _ _ ?_
       refine Az L8 rfl rfl ?_
       refine ALs ?_
       refine y21 _ _ ?_
       refine k20 _ _ ?_
       refine ALn ?_
       refine AI L8 1 [(37,.int .i64 (((i+1:Nat):Int)))]
        ⟨CQ r6 (fun _=>DV (by rw[BG (by omega) (by omega)];omega)),ALu⟩ fun a29 w29 g29 CR=>?_
       have Gu:=AA g28 g29
       refine AI (CR.dl [12]) 1 [(12,.int .i64 (((i+1:Nat):Int)))]
        ⟨ym r5,ALu⟩ fun a30 w30 g30 Fd=>?_
       have AGu:=AA Gu g30
       refine AE ?_
       replace Ad:=AC AGu Ad
       replace EH:=AC AGu EH
       replace hr:=hr.kn AGu
       replace HG:=AA HG AGu
       exact⟨⟨i+1,by omega,fun k hk=>if e:k=i then (by rw[e,hchk];exact hok) else hb k (by omega),⟨Fd.1,Fd.2.1,Fd.2.2.1,(AH (AH (AH Fd))).2.2.2.2.2.2.1,(AH (AH (AH Fd))).2.2.2.2.2.2.2.1,(AH (AH (AH (AH Fd)))).1,(AH (AH (AH (AH Fd)))).2.1,(AH (AH (AH (AH Fd)))).2.2.1,(AH (AH (AH (AH Fd)))).2.2.2.1,(AH (AH (AH (AH Fd)))).2.2.2.2.1,(AH (AH (AH (AH Fd)))).2.2.2.2.2.1,(AH (AH (AH (AH Fd)))).2.2.2.2.2.2.1,ALu⟩,HG,Ad,hr⟩,by rw[show _=_ from Fd.2.2.1,show _=_ from Cu.2.2.1];simp[intOf];omega⟩
     · refine Ck DY [(17,.int .i64 ((i:Int))),(18,.bool false),(19,.bool false),(20,undef),(21,undef),(22,undef),(23,undef),(24,undef),(25,undef),(26,undef),(27,undef),(28,undef),(29,undef),(30,.bool false),(31,.bool false),(32,pk P9 32),(33,.agg #[VK.s x]),(34,.bool false),(35,.bool true),(36,.bool true)]
        ⟨ym r5,CQ r6 (fun _=>DQ (by simp;omega)),ym r5,AX r6,AX r6,AX r6,AX r6,AX r6,AX r6,AX r6,AX r6,AX r6,AX r6,B8 r7,ym r5,BE rq9 (fun _=>by kernel_rfl),Ap rq9 (fun _ g=>Ac (QK (VK.s x) rfl) (BF (L:=[bv x.o,[VK.s x]]) (i:=1) (AF g EH (by simp)) rfl (by simp[AJ,AU,x.ho.1]))),Bf [.agg #[VK.s x]] Tryz.func97 (by kernel_rfl) r7 ⟨(oy rfl rfl),ALu⟩ (Au fun W g=>Ja hv ((hr.kn g).kt hi hx_x)),Fc rfl rfl (gy rfl rfl rfl) (oy rfl rfl) (fun _=>BJ) (fun _=>rfl),Ax rq9,ALu⟩ fun a31 w31 g31 Hu=>?_
       refine k27 _ _ ?_
       refine Ay Hu rfl rfl ?_
       refine ALo fun K32 k32=>?_
       refine ALn ?_
       refine Aa (v:=.bool false) Hu r6 fun a33 IZ=>?_
       refine AE ?_
       refine k32 _ _ ?_
       replace Ad:=AC g31 Ad
       replace EH:=AC g31 EH
       replace hr:=hr.kn g31
       replace HG:=AA HG g31
       refine ALr ?_
       repeat refine AL ?_
       refine r21 _ _ ?_
       repeat refine AL ?_
       refine r15 _ _ ?_
       repeat refine AL ?_
       refine BU (fn:=Tryz.f51) IZ (BD (p:=2) Tryz.results51 IZ rfl rfl) (Bz Tryz.func95 (by kernel_rfl) rfl _ _) (C9 _) ?_
       exact⟨Ht ((Jb (i:=i) (by rw[hmap];exact hi) (by rw[hchk];simp[hv])).symm),HG⟩
     · have hok:((decide (i=0)||Es y.o x.o)&&Gh x.l)=true:=by simp[hz,hv,hc]
       refine Ck DY [(17,.int .i64 ((i:Int))),(18,.bool true),(19,.bool true),(20,pk CO 64),(21,.slice ao ks.length cap),(22,.int .i64 ((i:Int))),(23,.int .i64 (((i-1:Nat):Int))),(24,pk ((bO ao)) (oO ao+(i-1)*33)),(25,IA y),(26,pt P9),(27,AP x.o),(28,.int .i64 ((Hr y.o x.o))),(29,.bool false),(30,.bool false),(31,.bool false),(32,pk P9 32),(33,.agg #[VK.s x]),(34,.bool true),(35,.bool false),(36,.bool false)]
        ⟨ym r5,CQ r6 (fun _=>DQ (by simp;omega)),ym r5,BE rq9 (fun _=>by kernel_rfl),Ap rq9 (fun _ g=>Ac (Eb (.slice ao ks.length cap) rfl) (BF (L:=[bv sa,bv po,[.slice ao ks.length cap]]) (i:=2) (AF g Ad (by simp)) rfl (by simp[AJ,AU,hsa.1,hpo.1]))),Aw rq8,Bc rq9 (fun _=>GF (by rw[BG (by omega) (by omega)];omega)),C4 rfl rfl (gy rfl rfl rfl) (oy rfl rfl) (oy rfl rfl) (fun w=>Ce Tryz.underlying34 (by kernel_rfl) (hr.1.1) (by omega) (rfl) w) (fun _=>rfl),Ap rq9 (fun _ g=>Ac (VN y) (RdK.keyX (hr.kn g) rfl hp hx_y)),BE rq9 (fun _=>by kernel_rfl),Ap rq9 (fun _ g=>Ac (CD x.o x.ho.1) (BF (L:=[bv x.o,[VK.s x]]) (i:=0) (AF g EH (by simp)) rfl rfl)),Bf [IA y,AP x.o] Tryz.func96 (by kernel_rfl) r7 ⟨(oy rfl rfl),(oy rfl rfl),ALu⟩ (Au fun W g=>Gq y x.o x.ho W),Bc rq9 (fun _=>FY (by rw[Mn,hc];rfl)),Ax rq9,ym r5,BE rq9 (fun _=>by kernel_rfl),Ap rq9 (fun _ g=>Ac (QK (VK.s x) rfl) (BF (L:=[bv x.o,[VK.s x]]) (i:=1) (AF g EH (by simp)) rfl (by simp[AJ,AU,x.ho.1]))),Bf [.agg #[VK.s x]] Tryz.func97 (by kernel_rfl) r7 ⟨(oy rfl rfl),ALu⟩ (Au fun W g=>Ja hv ((hr.kn g).kt hi hx_x)),Fc rfl rfl (gy rfl rfl rfl) (oy rfl rfl) (fun _=>BJ) (fun _=>rfl),Ax rq9,ALu⟩ fun a34 w34 g34 M3=>?_
       refine k27 _ _ ?_
       refine Az M3 rfl rfl ?_
       refine ALs ?_
       refine y21 _ _ ?_
       refine k20 _ _ ?_
       refine ALn ?_
       refine AI M3 1 [(37,.int .i64 (((i+1:Nat):Int)))]
        ⟨CQ r6 (fun _=>DV (by rw[BG (by omega) (by omega)];omega)),ALu⟩ fun a35 w35 g35 Js=>?_
       have AK2:=AA g34 g35
       refine AI (Js.dl [12]) 1 [(12,.int .i64 (((i+1:Nat):Int)))]
        ⟨ym r5,ALu⟩ fun a36 w36 g36 F5=>?_
       have Rn:=AA AK2 g36
       refine AE ?_
       replace Ad:=AC Rn Ad
       replace EH:=AC Rn EH
       replace hr:=hr.kn Rn
       replace HG:=AA HG Rn
       exact⟨⟨i+1,by omega,fun k hk=>if e:k=i then (by rw[e,hchk];exact hok) else hb k (by omega),⟨F5.1,F5.2.1,F5.2.2.1,(AH (AH (AH F5))).2.2.2.2.2.2.1,(AH (AH (AH F5))).2.2.2.2.2.2.2.1,(AH (AH (AH (AH F5)))).1,(AH (AH (AH (AH F5)))).2.1,(AH (AH (AH (AH F5)))).2.2.1,(AH (AH (AH (AH F5)))).2.2.2.1,(AH (AH (AH (AH F5)))).2.2.2.2.1,(AH (AH (AH (AH F5)))).2.2.2.2.2.1,(AH (AH (AH (AH F5)))).2.2.2.2.2.2.1,ALu⟩,HG,Ad,hr⟩,by rw[show _=_ from F5.2.2.1,show _=_ from Cu.2.2.1];simp[intOf];omega⟩
     · refine Ck DY [(17,.int .i64 ((i:Int))),(18,.bool true),(19,.bool true),(20,pk CO 64),(21,.slice ao ks.length cap),(22,.int .i64 ((i:Int))),(23,.int .i64 (((i-1:Nat):Int))),(24,pk ((bO ao)) (oO ao+(i-1)*33)),(25,IA y),(26,pt P9),(27,AP x.o),(28,.int .i64 ((Hr y.o x.o))),(29,.bool false),(30,.bool false),(31,.bool false),(32,pk P9 32),(33,.agg #[VK.s x]),(34,.bool false),(35,.bool true),(36,.bool true)]
        ⟨ym r5,CQ r6 (fun _=>DQ (by simp;omega)),ym r5,BE rq9 (fun _=>by kernel_rfl),Ap rq9 (fun _ g=>Ac (Eb (.slice ao ks.length cap) rfl) (BF (L:=[bv sa,bv po,[.slice ao ks.length cap]]) (i:=2) (AF g Ad (by simp)) rfl (by simp[AJ,AU,hsa.1,hpo.1]))),Aw rq8,Bc rq9 (fun _=>GF (by rw[BG (by omega) (by omega)];omega)),C4 rfl rfl (gy rfl rfl rfl) (oy rfl rfl) (oy rfl rfl) (fun w=>Ce Tryz.underlying34 (by kernel_rfl) (hr.1.1) (by omega) (rfl) w) (fun _=>rfl),Ap rq9 (fun _ g=>Ac (VN y) (RdK.keyX (hr.kn g) rfl hp hx_y)),BE rq9 (fun _=>by kernel_rfl),Ap rq9 (fun _ g=>Ac (CD x.o x.ho.1) (BF (L:=[bv x.o,[VK.s x]]) (i:=0) (AF g EH (by simp)) rfl rfl)),Bf [IA y,AP x.o] Tryz.func96 (by kernel_rfl) r7 ⟨(oy rfl rfl),(oy rfl rfl),ALu⟩ (Au fun W g=>Gq y x.o x.ho W),Bc rq9 (fun _=>FY (by rw[Mn,hc];rfl)),Ax rq9,ym r5,BE rq9 (fun _=>by kernel_rfl),Ap rq9 (fun _ g=>Ac (QK (VK.s x) rfl) (BF (L:=[bv x.o,[VK.s x]]) (i:=1) (AF g EH (by simp)) rfl (by simp[AJ,AU,x.ho.1]))),Bf [.agg #[VK.s x]] Tryz.func97 (by kernel_rfl) r7 ⟨(oy rfl rfl),ALu⟩ (Au fun W g=>Ja hv ((hr.kn g).kt hi hx_x)),Fc rfl rfl (gy rfl rfl rfl) (oy rfl rfl) (fun _=>BJ) (fun _=>rfl),Ax rq9,ALu⟩ fun a37 w37 g37 Jt=>?_
       refine k27 _ _ ?_
       refine Ay Jt rfl rfl ?_
       refine ALo fun K38 k38=>?_
       refine ALn ?_
       refine Aa (v:=.bool false) Jt r6 fun a39 L9=>?_
       refine AE ?_
       refine k38 _ _ ?_
       replace Ad:=AC g37 Ad
       replace EH:=AC g37 EH
       replace hr:=hr.kn g37
       replace HG:=AA HG g37
       refine ALr ?_
       repeat refine AL ?_
       refine r21 _ _ ?_
       repeat refine AL ?_
       refine r15 _ _ ?_
       repeat refine AL ?_
       refine BU (fn:=Tryz.f51) L9 (BD (p:=2) Tryz.results51 L9 rfl rfl) (Bz Tryz.func95 (by kernel_rfl) rfl _ _) (C9 _) ?_
       exact⟨Ht ((Jb (i:=i) (by rw[hmap];exact hi) (by rw[hchk];simp[hv,hc,Nat.ne_of_gt hz])).symm),HG⟩
     · refine Ck DY [(17,.int .i64 ((i:Int))),(18,.bool true),(19,.bool true),(20,pk CO 64),(21,.slice ao ks.length cap),(22,.int .i64 ((i:Int))),(23,.int .i64 (((i-1:Nat):Int))),(24,pk ((bO ao)) (oO ao+(i-1)*33)),(25,IA y),(26,pt P9),(27,AP x.o),(28,.int .i64 ((Hr y.o x.o))),(29,.bool true),(30,.bool true),(31,.bool true),(32,undef),(33,undef),(34,undef),(35,undef),(36,.bool true)]
        ⟨ym r5,CQ r6 (fun _=>DQ (by simp;omega)),ym r5,BE rq9 (fun _=>by kernel_rfl),Ap rq9 (fun _ g=>Ac (Eb (.slice ao ks.length cap) rfl) (BF (L:=[bv sa,bv po,[.slice ao ks.length cap]]) (i:=2) (AF g Ad (by simp)) rfl (by simp[AJ,AU,hsa.1,hpo.1]))),Aw rq8,Bc rq9 (fun _=>GF (by rw[BG (by omega) (by omega)];omega)),C4 rfl rfl (gy rfl rfl rfl) (oy rfl rfl) (oy rfl rfl) (fun w=>Ce Tryz.underlying34 (by kernel_rfl) (hr.1.1) (by omega) (rfl) w) (fun _=>rfl),Ap rq9 (fun _ g=>Ac (VN y) (RdK.keyX (hr.kn g) rfl hp hx_y)),BE rq9 (fun _=>by kernel_rfl),Ap rq9 (fun _ g=>Ac (CD x.o x.ho.1) (BF (L:=[bv x.o,[VK.s x]]) (i:=0) (AF g EH (by simp)) rfl rfl)),Bf [IA y,AP x.o] Tryz.func96 (by kernel_rfl) r7 ⟨(oy rfl rfl),(oy rfl rfl),ALu⟩ (Au fun W g=>Gq y x.o x.ho W),Bc rq9 (fun _=>FY (by rw[Mn,hc];rfl)),Ax rq9,ym r5,AX r6,AX r6,AX r6,AX r6,B8 r7,ALu⟩ fun a40 w40 g40 Lc=>?_
       refine k27 _ _ ?_
       refine Ay Lc rfl rfl ?_
       refine ALo fun K41 k41=>?_
       refine ALn ?_
       refine Aa (v:=.bool false) Lc r6 fun a42 GK=>?_
       refine AE ?_
       refine k41 _ _ ?_
       replace Ad:=AC g40 Ad
       replace EH:=AC g40 EH
       replace hr:=hr.kn g40
       replace HG:=AA HG g40
       refine ALr ?_
       repeat refine AL ?_
       refine r21 _ _ ?_
       repeat refine AL ?_
       refine r15 _ _ ?_
       repeat refine AL ?_
       refine BU (fn:=Tryz.f51) GK (BD (p:=2) Tryz.results51 GK rfl rfl) (Bz Tryz.func95 (by kernel_rfl) rfl _ _) (C9 _) ?_
       exact⟨Ht ((Jb (i:=i) (by rw[hmap];exact hi) (by rw[hchk];simp[hv,hc,Nat.ne_of_gt hz])).symm),HG⟩
     · refine Ck DY [(17,.int .i64 ((i:Int))),(18,.bool true),(19,.bool true),(20,pk CO 64),(21,.slice ao ks.length cap),(22,.int .i64 ((i:Int))),(23,.int .i64 (((i-1:Nat):Int))),(24,pk ((bO ao)) (oO ao+(i-1)*33)),(25,IA y),(26,pt P9),(27,AP x.o),(28,.int .i64 ((Hr y.o x.o))),(29,.bool true),(30,.bool true),(31,.bool true),(32,undef),(33,undef),(34,undef),(35,undef),(36,.bool true)]
        ⟨ym r5,CQ r6 (fun _=>DQ (by simp;omega)),ym r5,BE rq9 (fun _=>by kernel_rfl),Ap rq9 (fun _ g=>Ac (Eb (.slice ao ks.length cap) rfl) (BF (L:=[bv sa,bv po,[.slice ao ks.length cap]]) (i:=2) (AF g Ad (by simp)) rfl (by simp[AJ,AU,hsa.1,hpo.1]))),Aw rq8,Bc rq9 (fun _=>GF (by rw[BG (by omega) (by omega)];omega)),C4 rfl rfl (gy rfl rfl rfl) (oy rfl rfl) (oy rfl rfl) (fun w=>Ce Tryz.underlying34 (by kernel_rfl) (hr.1.1) (by omega) (rfl) w) (fun _=>rfl),Ap rq9 (fun _ g=>Ac (VN y) (RdK.keyX (hr.kn g) rfl hp hx_y)),BE rq9 (fun _=>by kernel_rfl),Ap rq9 (fun _ g=>Ac (CD x.o x.ho.1) (BF (L:=[bv x.o,[VK.s x]]) (i:=0) (AF g EH (by simp)) rfl rfl)),Bf [IA y,AP x.o] Tryz.func96 (by kernel_rfl) r7 ⟨(oy rfl rfl),(oy rfl rfl),ALu⟩ (Au fun W g=>Gq y x.o x.ho W),Bc rq9 (fun _=>FY (by rw[Mn,hc];rfl)),Ax rq9,ym r5,AX r6,AX r6,AX r6,AX r6,B8 r7,ALu⟩ fun a43 w43 g43 Kg=>?_
       refine k27 _ _ ?_
       refine Ay Kg rfl rfl ?_
       refine ALo fun K44 k44=>?_
       refine ALn ?_
       refine Aa (v:=.bool false) Kg r6 fun a45 CL=>?_
       refine AE ?_
       refine k44 _ _ ?_
       replace HG:=AA HG g43
       refine ALr ?_
       repeat refine AL ?_
       refine r21 _ _ ?_
       repeat refine AL ?_
       refine r15 _ _ ?_
       repeat refine AL ?_
       refine BU (fn:=Tryz.f51) CL (BD (p:=2) Tryz.results51 CL rfl rfl) (Bz Tryz.func95 (by kernel_rfl) rfl _ _) (C9 _) ?_
       exact⟨Ht ((Jb (i:=i) (by rw[hmap];exact hi) (by rw[hchk];simp[hv,hc,Nat.ne_of_gt hz])).symm),HG⟩
   · refine ALn ?_
     refine AI Cu 1 [(13,.bool false)]
       ⟨Hc r7 (fun _=>Bv (by simp;omega)),ALu⟩ fun a46 w46 g46 IC=>?_
     refine AE ?_
     refine k17 _ _ ?_
     refine ALo fun K47 k47=>?_
     refine Az IC rfl rfl ?_
     refine wp_exit ?_
     repeat refine CW ?_
     refine x15 _ _ ?_
     refine k12 _ _ ?_
     refine ALo fun K48 k48=>?_
     refine ALn ?_
     refine Aa (v:=.bool true) IC r6 fun a49 GL=>?_
     refine AE ?_
     refine k48 _ _ ?_
     replace HG:=AA HG g46
     refine ALr ?_
     repeat refine AL ?_
     refine BU (fn:=Tryz.f51) GL (BD (p:=2) Tryz.results51 GL rfl rfl) (Bz Tryz.func95 (by kernel_rfl) rfl _ _) (C9 _) ?_
     exact⟨Ht ((Xq (by omega) fun k hk=>hb k (by omega)).symm),HG⟩
theorem VU (ks:List VK) (ao:Option Addr) (cap:Nat) (sa po:List Nat) (hsa:Dg sa) (hpo:Dg po) (w:World) (hr:RdK w (.slice ao ks.length cap) ks) :
   Calls Tryz.prog 40 #[Ao sa po (.slice ao ks.length cap)] w fun e w'=>e=.returned (.bool (CH (ks.map VK.p)))∧w.grownBy w' none:=by
 have hlen:=hr.len
 have hmap:(ks.map VK.p).length=ks.length:=List.length_map _
 refine Bg Tryz.func40 rfl Tryz.ntmps40 rfl fun a0 sv0=>?_
 have HG:=World.grownBy.refl w none
 replace sv0:Sv 44 [] [(0,Ao sa po (.slice ao ks.length cap))] a0:=sv0
 refine ALo fun K1 k1=>?_
 refine ALn ?_
 refine Bn sv0 r6 (BX hsa hpo (.slice ao ks.length cap) rfl) fun a2 w2 CO GJ g2 z2 Ad sv2=>?_
 replace hr:=hr.kn g2
 replace HG:=AA HG g2
 refine Aa (v:=.bool false) sv2 r6 fun a3 sv3=>?_
 refine AE ?_
 refine k1 _ _ ?_
 refine ALo fun K4 k4=>?_
 refine ALo fun K5 k5=>?_
 by_cases hbig:64<ks.length
 · refine ALn ?_
   refine AI sv3 4 [(4,pk CO 64),(5,.slice ao ks.length cap),(6,.int .i64 ((ks.length:Nat))),(7,.bool true)]
     ⟨yf r6 (fun _=>by kernel_rfl),yp (i:=2) r6 (Eb (.slice ao ks.length cap) rfl) Ad rfl (by simp[AJ,AU,hsa.1,hpo.1]),CB (Tryz.underlying34) rfl rfl trivial (oy rfl rfl) (fun _=>rfl),CQ r6 (fun _=>DQ (by simp;omega)),ALu⟩ fun a6 w6 g6 sv6=>?_
   refine AE ?_
   refine k5 _ _ ?_
   refine Ay sv6 rfl rfl ?_
   refine ALo fun K7 k7=>?_
   refine ALn ?_
   refine Aa (v:=.bool false) sv6 r6 fun a8 sv8=>?_
   refine AE ?_
   refine k7 _ _ ?_
   replace Ad:=AC g6 Ad
   replace hr:=hr.kn g6
   replace HG:=AA HG g6
   refine ALr ?_
   repeat refine AL ?_
   refine BH (fn:=Tryz.f40) sv8 (BD (p:=2) Tryz.results40 sv8 rfl rfl) ?_
   exact⟨Ht ((Xn (by omega)).symm),HG⟩
 · refine ALn ?_
   refine AI sv3 4 [(4,pk CO 64),(5,.slice ao ks.length cap),(6,.int .i64 ((ks.length:Nat))),(7,.bool false)]
     ⟨yf r6 (fun _=>by kernel_rfl),yp (i:=2) r6 (Eb (.slice ao ks.length cap) rfl) Ad rfl (by simp[AJ,AU,hsa.1,hpo.1]),CB (Tryz.underlying34) rfl rfl trivial (oy rfl rfl) (fun _=>rfl),CQ r6 (fun _=>DQ (by simp;omega)),ALu⟩ fun a9 w9 g9 sv9=>?_
   refine AE ?_
   refine k5 _ _ ?_
   refine Az sv9 rfl rfl ?_
   refine ALs ?_
   refine k4 _ _ ?_
   refine ALo fun K10 k10=>?_
   refine ALo fun K11 k11=>?_
   refine ALn ?_
   refine Aa (v:=.int .i64 0) sv9 r6 fun a12 DX=>?_
   refine AE ?_
   refine k11 _ _ ?_
   refine BM fun Q13 x13 y13 r13 o13=>?_
   replace Ad:=AC g9 Ad
   replace hr:=hr.kn g9
   replace HG:=AA HG g9
   refine wp_loop (fun a w'=>∃(i:Nat),(i≤ks.length)∧(∀k,k<i→chk (ks.map VK.p) k=true)∧Sv 44 [] [(3,.int .i64 ((i:Int))),(4,pk CO 64),(5,.slice ao ks.length cap),(6,.int .i64 ((ks.length:Nat))),(7,.bool false),(1,pt CO),(0,Ao sa po (.slice ao ks.length cap))] a∧w.grownBy w' none∧w'.heap[CO]?=some (.cells ([bv sa,bv po,[.slice ao ks.length cap]].flatten).toArray 36 (0,0))∧RdK w' (.slice ao ks.length cap) ks) (fun a _=>(ks.length-intOf (a.tmps.getD 3 undef)).toNat) ⟨0,Nat.zero_le _,fun k hk=>by omega,⟨DX.1,DX.2.1,DX.2.2.1,DX.2.2.2.1,DX.2.2.2.2.1,DX.2.2.2.2.2.1,DX.2.2.2.2.2.2.1,(AH DX).1,(AH DX).2.1,ALu⟩,HG,Ad,hr⟩ fun a14 w14 hI14=>?_
   clear Ad
   clear hr
   clear HG
   obtain⟨i,hin,hb,Db,HG,Ad,hr⟩:=hI14
   refine ALo fun K15 k15=>?_
   refine ALo fun K16 k16=>?_
   by_cases hi:i<ks.length
   · have hp:i-1<ks.length:=by omega
     obtain⟨x,hx_x⟩:∃x,ks[i]'hi=x:=⟨_,rfl⟩
     obtain⟨y,hx_y⟩:∃x,ks[(i-1)]'hp=x:=⟨_,rfl⟩
     have hchk:=AHt hi hp hx_x hx_y
     refine ALn ?_
     refine AI Db 5 [(8,.int .i64 ((i:Int))),(9,pk CO 64),(10,.slice ao ks.length cap),(11,.int .i64 ((ks.length:Nat))),(12,.bool true)]
       ⟨ym r5,yf r6 (fun _=>by kernel_rfl),yp (i:=2) r6 (Eb (.slice ao ks.length cap) rfl) Ad rfl (by simp[AJ,AU,hsa.1,hpo.1]),CB (Tryz.underlying34) rfl rfl trivial (oy rfl rfl) (fun _=>rfl),Hc r7 (fun _=>Bv (by simp;omega)),ALu⟩ fun a17 w17 g17 GH=>?_
     refine AE ?_
     refine k16 _ _ ?_
     refine Ay GH rfl rfl ?_
     refine ALs ?_
     refine k15 _ _ ?_
     refine ALo fun K18 k18=>?_
     refine BM fun Q19 x19 y19 r19 o19=>?_
     refine ALo fun K20 k20=>?_
     replace Ad:=AC g17 Ad
     replace hr:=hr.kn g17
     replace HG:=AA HG g17
     rcases(show(i=0∧Gh x.l=true)∨(i=0∧Gh x.l=false)∨(0<i∧Es y.o x.o=true∧Gh x.l=true)∨(0<i∧Es y.o x.o=true∧Gh x.l=false)∨(0<i∧Es y.o x.o=false∧Gh x.l=true)∨(0<i∧Es y.o x.o=false∧Gh x.l=false) by
        rcases Nat.eq_zero_or_pos i with h|h<;>cases h2:Gh x.l<;>cases h3:Es y.o x.o<;>simp[h]) with ⟨hz,hv⟩|⟨hz,hv⟩|⟨hz,hc,hv⟩|⟨hz,hc,hv⟩|⟨hz,hc,hv⟩|⟨hz,hc,hv⟩
     · have hok:((decide (i=0)||Es y.o x.o)&&Gh x.l)=true:=by simp[hz,hv]
       refine Ck GH [(15,pk CO 64),(16,.slice ao ks.length cap),(17,.int .i64 ((i:Int))),(18,pk ((bO ao)) (oO ao+i*33)),(19,pk ((bO ao)) (oO ao+i*33+32)),(20,.agg #[VK.s x]),(21,.bool true),(22,.bool false),(23,.bool false),(24,.int .i64 ((i:Int))),(25,.bool false),(26,.bool false),(27,undef),(28,undef),(29,undef),(30,undef),(31,undef),(32,undef),(33,undef),(34,undef),(35,undef),(36,undef),(37,undef),(38,undef),(39,undef),(40,undef),(41,undef),(42,.bool false),(43,.bool false)]
        ⟨yf r6 (fun _=>by kernel_rfl),yp (i:=2) r6 (Eb (.slice ao ks.length cap) rfl) Ad rfl (by simp[AJ,AU,hsa.1,hpo.1]),ym r5,BV rq8 (fun w=>Ce Tryz.underlying34 (by kernel_rfl) (hr.1.1) (by omega) (rfl) w),yf r6 (fun _=>by kernel_rfl),CE r6 (fun _ g=>Ac (QK (VK.s x) rfl) (RdK.treeX (hr.kn g) rfl hi hx_x)),Ae [.agg #[VK.s x]] Tryz.func87 (by kernel_rfl) rq4 ⟨(oy rfl rfl),ALu⟩ (Au fun W g=>FO hv ((hr.kn g).kt hi hx_x)),Cl r6 (fun _=>BJ),ym r5,Aw rq8,Bc rq9 (fun _=>DQ (by simp;omega)),Aw rq8,AX r6,AX r6,AX r6,AX r6,AX r6,AX r6,AX r6,AX r6,AX r6,AX r6,AX r6,AX r6,AX r6,AX r6,AX r6,Ea rfl rfl (gy rfl rfl rfl) (oy rfl rfl) rfl (fun _=>rfl),Ax rq9,ALu⟩ fun a21 w21 g21 Da=>?_
       refine k20 _ _ ?_
       refine Az Da rfl rfl ?_
       refine ALs ?_
       refine y19 _ _ ?_
       refine k18 _ _ ?_
       refine ALn ?_
       refine AI Da 2 [(13,.int .i64 ((i:Int))),(14,.int .i64 (((i+1:Nat):Int)))]
        ⟨ym r5,CQ r6 (fun _=>DV (by rw[BG (by omega) (by omega)];omega)),ALu⟩ fun a22 w22 g22 Cw=>?_
       have QP:=AA g21 g22
       refine Aa (v:=.int .i64 (((i+1:Nat):Int))) Cw r6 fun a23 Cz=>?_
       refine AE ?_
       replace Ad:=AC QP Ad
       replace hr:=hr.kn QP
       replace HG:=AA HG QP
       exact⟨⟨i+1,by omega,fun k hk=>if e:k=i then (by rw[e,hchk];exact hok) else hb k (by omega),⟨Cz.1,Cz.2.1,Cz.2.2.1,(AH (AH (AH (AH Cz)))).2.2.2.2.2.2.2.1,(AH (AH (AH (AH (AH Cz))))).1,(AH (AH (AH (AH (AH Cz))))).2.1,(AH (AH (AH (AH (AH Cz))))).2.2.1,(AH (AH (AH (AH (AH Cz))))).2.2.2.1,(AH (AH (AH (AH (AH Cz))))).2.2.2.2.1,ALu⟩,HG,Ad,hr⟩,by rw[show _=_ from Cz.2.2.1,show _=_ from Db.2.2.1];simp[intOf];omega⟩
     · refine Ck GH [(15,pk CO 64),(16,.slice ao ks.length cap),(17,.int .i64 ((i:Int))),(18,pk ((bO ao)) (oO ao+i*33)),(19,pk ((bO ao)) (oO ao+i*33+32)),(20,.agg #[VK.s x]),(21,.bool false),(22,.bool true),(23,.bool true),(24,undef),(25,undef),(26,undef),(27,undef),(28,undef),(29,undef),(30,undef),(31,undef),(32,undef),(33,undef),(34,undef),(35,undef),(36,undef),(37,undef),(38,undef),(39,undef),(40,undef),(41,undef),(42,undef),(43,.bool true)]
        ⟨yf r6 (fun _=>by kernel_rfl),yp (i:=2) r6 (Eb (.slice ao ks.length cap) rfl) Ad rfl (by simp[AJ,AU,hsa.1,hpo.1]),ym r5,BV rq8 (fun w=>Ce Tryz.underlying34 (by kernel_rfl) (hr.1.1) (by omega) (rfl) w),yf r6 (fun _=>by kernel_rfl),CE r6 (fun _ g=>Ac (QK (VK.s x) rfl) (RdK.treeX (hr.kn g) rfl hi hx_x)),Ae [.agg #[VK.s x]] Tryz.func87 (by kernel_rfl) rq4 ⟨(oy rfl rfl),ALu⟩ (Au fun W g=>FO hv ((hr.kn g).kt hi hx_x)),Cl r6 (fun _=>BJ),ym r5,AX r6,AX r6,AX r6,A3 ⟨26,rfl,rfl,fun _ _ h=>h⟩ rfl (fun _=>rfl),A3 ⟨26,rfl,rfl,fun _ _ h=>h⟩ rfl (fun _=>rfl),A3 ⟨26,rfl,rfl,fun _ _ h=>h⟩ rfl (fun _=>rfl),A3 ⟨26,rfl,rfl,fun _ _ h=>h⟩ rfl (fun _=>rfl),A3 ⟨26,rfl,rfl,fun _ _ h=>h⟩ rfl (fun _=>rfl),A3 ⟨26,rfl,rfl,fun _ _ h=>h⟩ rfl (fun _=>rfl),A3 ⟨26,rfl,rfl,fun _ _ h=>h⟩ rfl (fun _=>rfl),A3 ⟨26,rfl,rfl,fun _ _ h=>h⟩ rfl (fun _=>rfl),A3 ⟨26,rfl,rfl,fun _ _ h=>h⟩ rfl (fun _=>rfl),A3 ⟨26,rfl,rfl,fun _ _ h=>h⟩ rfl (fun _=>rfl),A3 ⟨26,rfl,rfl,fun _ _ h=>h⟩ rfl (fun _=>rfl),A3 ⟨26,rfl,rfl,fun _ _ h=>h⟩ rfl (fun _=>rfl),A3 ⟨26,rfl,rfl,fun _ _ h=>h⟩ rfl (fun _=>rfl),A3 ⟨26,rfl,rfl,fun _ _ h=>h⟩ rfl (fun _=>rfl),A3 ⟨26,rfl,rfl,fun _ _ h=>h⟩ rfl (fun _=>rfl),AX r6,B8 r7,ALu⟩ fun a24 w24 g24 CI=>?_
       refine k20 _ _ ?_
       refine Ay CI rfl rfl ?_
       refine ALo fun K25 k25=>?_
       refine ALn ?_
       refine Aa (v:=.bool false) CI r6 fun a26 Cj=>?_
       refine AE ?_
       refine k25 _ _ ?_
       replace Ad:=AC g24 Ad
       replace hr:=hr.kn g24
       replace HG:=AA HG g24
       refine ALr ?_
       repeat refine AL ?_
       refine r19 _ _ ?_
       repeat refine AL ?_
       refine r13 _ _ ?_
       repeat refine AL ?_
       refine BH (fn:=Tryz.f40) Cj (BD (p:=2) Tryz.results40 Cj rfl rfl) ?_
       exact⟨Ht ((Jb (i:=i) (by rw[hmap];exact hi) (by rw[hchk];simp[hv])).symm),HG⟩
     · have hok:((decide (i=0)||Es y.o x.o)&&Gh x.l)=true:=by simp[hz,hv,hc]
       refine Ck GH [(15,pk CO 64),(16,.slice ao ks.length cap),(17,.int .i64 ((i:Int))),(18,pk ((bO ao)) (oO ao+i*33)),(19,pk ((bO ao)) (oO ao+i*33+32)),(20,.agg #[VK.s x]),(21,.bool true),(22,.bool false),(23,.bool false),(24,.int .i64 ((i:Int))),(25,.bool true),(26,.bool true),(27,pk CO 64),(28,.slice ao ks.length cap),(29,.int .i64 ((i:Int))),(30,.int .i64 (((i-1:Nat):Int))),(31,pk ((bO ao)) (oO ao+(i-1)*33)),(32,pk ((bO ao)) (oO ao+(i-1)*33)),(33,AP y.o),(34,pk CO 64),(35,.slice ao ks.length cap),(36,.int .i64 ((i:Int))),(37,pk ((bO ao)) (oO ao+i*33)),(38,pk ((bO ao)) (oO ao+i*33)),(39,AP x.o),(40,.bool true),(41,.bool false),(42,.bool false),(43,.bool false)]
        ⟨yf r6 (fun _=>by kernel_rfl),yp (i:=2) r6 (Eb (.slice ao ks.length cap) rfl) Ad rfl (by simp[AJ,AU,hsa.1,hpo.1]),ym r5,BV rq8 (fun w=>Ce Tryz.underlying34 (by kernel_rfl) (hr.1.1) (by omega) (rfl) w),yf r6 (fun _=>by kernel_rfl),CE r6 (fun _ g=>Ac (QK (VK.s x) rfl) (RdK.treeX (hr.kn g) rfl hi hx_x)),Ae [.agg #[VK.s x]] Tryz.func87 (by kernel_rfl) rq4 ⟨(oy rfl rfl),ALu⟩ (Au fun W g=>FO hv ((hr.kn g).kt hi hx_x)),Cl r6 (fun _=>BJ),ym r5,Aw rq8,Bc rq9 (fun _=>DQ (by simp;omega)),Aw rq8,BE rq9 (fun _=>by kernel_rfl),Ap rq9 (fun _ g=>Ac (Eb (.slice ao ks.length cap) rfl) (BF (L:=[bv sa,bv po,[.slice ao ks.length cap]]) (i:=2) (AF g Ad (by simp)) rfl (by simp[AJ,AU,hsa.1,hpo.1]))),Aw rq8,Bc rq9 (fun _=>GF (by rw[BG (by omega) (by omega)];omega)),C4 rfl rfl (gy rfl rfl rfl) (oy rfl rfl) (oy rfl rfl) (fun w=>Ce Tryz.underlying34 (by kernel_rfl) (hr.1.1) (by omega) (rfl) w) (fun _=>rfl),BE rq9 (fun _=>by kernel_rfl),Ap rq9 (fun _ g=>Ac (CD y.o y.ho.1) (RdK.ownerX (hr.kn g) rfl hp hx_y)),BE rq9 (fun _=>by kernel_rfl),Ap rq9 (fun _ g=>Ac (Eb (.slice ao ks.length cap) rfl) (BF (L:=[bv sa,bv po,[.slice ao ks.length cap]]) (i:=2) (AF g Ad (by simp)) rfl (by simp[AJ,AU,hsa.1,hpo.1]))),Aw rq8,C4 rfl rfl (gy rfl rfl rfl) (oy rfl rfl) (oy rfl rfl) (fun w=>Ce Tryz.underlying34 (by kernel_rfl) (hr.1.1) (by omega) (rfl) w) (fun _=>rfl),BE rq9 (fun _=>by kernel_rfl),Ap rq9 (fun _ g=>Ac (CD x.o x.ho.1) (RdK.ownerX (hr.kn g) rfl hi hx_x)),Bf [AP y.o,AP x.o] Tryz.func86 (by kernel_rfl) r7 ⟨(oy rfl rfl),(oy rfl rfl),ALu⟩ (Au fun W g=>Nb hc y.ho x.ho W),Fc rfl rfl (gy rfl rfl rfl) (oy rfl rfl) (fun _=>BJ) (fun _=>rfl),Ea rfl rfl (gy rfl rfl rfl) (oy rfl rfl) (oy rfl rfl) (fun _=>rfl),Ax rq9,ALu⟩ fun a27 w27 g27 Jr=>?_
       refine k20 _ _ ?_
       refine Az Jr rfl rfl ?_
       refine ALs ?_
       refine y19 _ _ ?_
       refine k18 _ _ ?_
       refine ALn ?_
       refine AI Jr 2 [(13,.int .i64 ((i:Int))),(14,.int .i64 (((i+1:Nat):Int)))]
        ⟨ym r5,CQ r6 (fun _=>DV (by rw[BG (by omega) (by omega)];omega)),ALu⟩ fun a28 w28 g28 L8=>?_
       have Na:=AA g27 g28
       refine Aa (v:=.int .i64 (((i+1:Nat):Int))) L8 r6 fun a29 CR=>?_
       refine AE ?_
       replace Ad:=AC Na Ad
       replace hr:=hr.kn Na
       replace HG:=AA HG Na
       exact⟨⟨i+1,by omega,fun k hk=>if e:k=i then (by rw[e,hchk];exact hok) else hb k (by omega),⟨CR.1,CR.2.1,CR.2.2.1,(AH (AH (AH (AH CR)))).2.2.2.2.2.2.2.1,(AH (AH (AH (AH (AH CR))))).1,(AH (AH (AH (AH (AH CR))))).2.1,(AH (AH (AH (AH (AH CR))))).2.2.1,(AH (AH (AH (AH (AH CR))))).2.2.2.1,(AH (AH (AH (AH (AH CR))))).2.2.2.2.1,ALu⟩,HG,Ad,hr⟩,by rw[show _=_ from CR.2.2.1,show _=_ from Db.2.2.1];simp[intOf];omega⟩
     · refine Ck GH [(15,pk CO 64),(16,.slice ao ks.length cap),(17,.int .i64 ((i:Int))),(18,pk ((bO ao)) (oO ao+i*33)),(19,pk ((bO ao)) (oO ao+i*33+32)),(20,.agg #[VK.s x]),(21,.bool false),(22,.bool true),(23,.bool true),(24,undef),(25,undef),(26,undef),(27,undef),(28,undef),(29,undef),(30,undef),(31,undef),(32,undef),(33,undef),(34,undef),(35,undef),(36,undef),(37,undef),(38,undef),(39,undef),(40,undef),(41,undef),(42,undef),(43,.bool true)]
        ⟨yf r6 (fun _=>by kernel_rfl),yp (i:=2) r6 (Eb (.slice ao ks.length cap) rfl) Ad rfl (by simp[AJ,AU,hsa.1,hpo.1]),ym r5,BV rq8 (fun w=>Ce Tryz.underlying34 (by kernel_rfl) (hr.1.1) (by omega) (rfl) w),yf r6 (fun _=>by kernel_rfl),CE r6 (fun _ g=>Ac (QK (VK.s x) rfl) (RdK.treeX (hr.kn g) rfl hi hx_x)),Ae [.agg #[VK.s x]] Tryz.func87 (by kernel_rfl) rq4 ⟨(oy rfl rfl),ALu⟩ (Au fun W g=>FO hv ((hr.kn g).kt hi hx_x)),Cl r6 (fun _=>BJ),ym r5,AX r6,AX r6,AX r6,A3 ⟨26,rfl,rfl,fun _ _ h=>h⟩ rfl (fun _=>rfl),A3 ⟨26,rfl,rfl,fun _ _ h=>h⟩ rfl (fun _=>rfl),A3 ⟨26,rfl,rfl,fun _ _ h=>h⟩ rfl (fun _=>rfl),A3 ⟨26,rfl,rfl,fun _ _ h=>h⟩ rfl (fun _=>rfl),A3 ⟨26,rfl,rfl,fun _ _ h=>h⟩ rfl (fun _=>rfl),A3 ⟨26,rfl,rfl,fun _ _ h=>h⟩ rfl (fun _=>rfl),A3 ⟨26,rfl,rfl,fun _ _ h=>h⟩ rfl (fun _=>rfl),A3 ⟨26,rfl,rfl,fun _ _ h=>h⟩ rfl (fun _=>rfl),A3 ⟨26,rfl,rfl,fun _ _ h=>h⟩ rfl (fun _=>rfl),A3 ⟨26,rfl,rfl,fun _ _ h=>h⟩ rfl (fun _=>rfl),A3 ⟨26,rfl,rfl,fun _ _ h=>h⟩ rfl (fun _=>rfl),A3 ⟨26,rfl,rfl,fun _ _ h=>h⟩ rfl (fun _=>rfl),A3 ⟨26,rfl,rfl,fun _ _ h=>h⟩ rfl (fun _=>rfl),A3 ⟨26,rfl,rfl,fun _ _ h=>h⟩ rfl (fun _=>rfl),A3 ⟨26,rfl,rfl,fun _ _ h=>h⟩ rfl (fun _=>rfl),AX r6,B8 r7,ALu⟩ fun a30 w30 g30 Fd=>?_
       refine k20 _ _ ?_
       refine Ay Fd rfl rfl ?_
       refine ALo fun K31 k31=>?_
       refine ALn ?_
       refine Aa (v:=.bool false) Fd r6 fun a32 Cr=>?_
       refine AE ?_
       refine k31 _ _ ?_
       replace Ad:=AC g30 Ad
       replace hr:=hr.kn g30
       replace HG:=AA HG g30
       refine ALr ?_
       repeat refine AL ?_
       refine r19 _ _ ?_
       repeat refine AL ?_
       refine r13 _ _ ?_
       repeat refine AL ?_
       refine BH (fn:=Tryz.f40) Cr (BD (p:=2) Tryz.results40 Cr rfl rfl) ?_
       exact⟨Ht ((Jb (i:=i) (by rw[hmap];exact hi) (by rw[hchk];simp[hv,hc,Nat.ne_of_gt hz])).symm),HG⟩
     · refine Ck GH [(15,pk CO 64),(16,.slice ao ks.length cap),(17,.int .i64 ((i:Int))),(18,pk ((bO ao)) (oO ao+i*33)),(19,pk ((bO ao)) (oO ao+i*33+32)),(20,.agg #[VK.s x]),(21,.bool true),(22,.bool false),(23,.bool false),(24,.int .i64 ((i:Int))),(25,.bool true),(26,.bool true),(27,pk CO 64),(28,.slice ao ks.length cap),(29,.int .i64 ((i:Int))),(30,.int .i64 (((i-1:Nat):Int))),(31,pk ((bO ao)) (oO ao+(i-1)*33)),(32,pk ((bO ao)) (oO ao+(i-1)*33)),(33,AP y.o),(34,pk CO 64),(35,.slice ao ks.length cap),(36,.int .i64 ((i:Int))),(37,pk ((bO ao)) (oO ao+i*33)),(38,pk ((bO ao)) (oO ao+i*33)),(39,AP x.o),(40,.bool false),(41,.bool true),(42,.bool true),(43,.bool true)]
        ⟨yf r6 (fun _=>by kernel_rfl),yp (i:=2) r6 (Eb (.slice ao ks.length cap) rfl) Ad rfl (by simp[AJ,AU,hsa.1,hpo.1]),ym r5,BV rq8 (fun w=>Ce Tryz.underlying34 (by kernel_rfl) (hr.1.1) (by omega) (rfl) w),yf r6 (fun _=>by kernel_rfl),CE r6 (fun _ g=>Ac (QK (VK.s x) rfl) (RdK.treeX (hr.kn g) rfl hi hx_x)),Ae [.agg #[VK.s x]] Tryz.func87 (by kernel_rfl) rq4 ⟨(oy rfl rfl),ALu⟩ (Au fun W g=>FO hv ((hr.kn g).kt hi hx_x)),Cl r6 (fun _=>BJ),ym r5,Aw rq8,Bc rq9 (fun _=>DQ (by simp;omega)),Aw rq8,BE rq9 (fun _=>by kernel_rfl),Ap rq9 (fun _ g=>Ac (Eb (.slice ao ks.length cap) rfl) (BF (L:=[bv sa,bv po,[.slice ao ks.length cap]]) (i:=2) (AF g Ad (by simp)) rfl (by simp[AJ,AU,hsa.1,hpo.1]))),Aw rq8,Bc rq9 (fun _=>GF (by rw[BG (by omega) (by omega)];omega)),C4 rfl rfl (gy rfl rfl rfl) (oy rfl rfl) (oy rfl rfl) (fun w=>Ce Tryz.underlying34 (by kernel_rfl) (hr.1.1) (by omega) (rfl) w) (fun _=>rfl),BE rq9 (fun _=>by kernel_rfl),Ap rq9 (fun _ g=>Ac (CD y.o y.ho.1) (RdK.ownerX (hr.kn g) rfl hp hx_y)),BE rq9 (fun _=>by kernel_rfl),Ap rq9 (fun _ g=>Ac (Eb (.slice ao ks.length cap) rfl) (BF (L:=[bv sa,bv po,[.slice ao ks.length cap]]) (i:=2) (AF g Ad (by simp)) rfl (by simp[AJ,AU,hsa.1,hpo.1]))),Aw rq8,C4 rfl rfl (gy rfl rfl rfl) (oy rfl rfl) (oy rfl rfl) (fun w=>Ce Tryz.underlying34 (by kernel_rfl) (hr.1.1) (by omega) (rfl) w) (fun _=>rfl),BE rq9 (fun _=>by kernel_rfl),Ap rq9 (fun _ g=>Ac (CD x.o x.ho.1) (RdK.ownerX (hr.kn g) rfl hi hx_x)),Bf [AP y.o,AP x.o] Tryz.func86 (by kernel_rfl) r7 ⟨(oy rfl rfl),(oy rfl rfl),ALu⟩ (Au fun W g=>Nb hc y.ho x.ho W),Fc rfl rfl (gy rfl rfl rfl) (oy rfl rfl) (fun _=>BJ) (fun _=>rfl),Ea rfl rfl (gy rfl rfl rfl) (oy rfl rfl) (oy rfl rfl) (fun _=>rfl),Ax rq9,ALu⟩ fun a33 w33 g33 IZ=>?_
       refine k20 _ _ ?_
       refine Ay IZ rfl rfl ?_
       refine ALo fun K34 k34=>?_
       refine ALn ?_
       refine Aa (v:=.bool false) IZ r6 fun a35 Js=>?_
       refine AE ?_
       refine k34 _ _ ?_
       replace Ad:=AC g33 Ad
       replace hr:=hr.kn g33
       replace HG:=AA HG g33
       refine ALr ?_
       repeat refine AL ?_
       refine r19 _ _ ?_
       repeat refine AL ?_
       refine r13 _ _ ?_
       repeat refine AL ?_
       refine BH (fn:=Tryz.f40) Js (BD (p:=2) Tryz.results40 Js rfl rfl) ?_
       exact⟨Ht ((Jb (i:=i) (by rw[hmap];exact hi) (by rw[hchk];simp[hv,hc,Nat.ne_of_gt hz])).symm),HG⟩
     · refine Ck GH [(15,pk CO 64),(16,.slice ao ks.length cap),(17,.int .i64 ((i:Int))),(18,pk ((bO ao)) (oO ao+i*33)),(19,pk ((bO ao)) (oO ao+i*33+32)),(20,.agg #[VK.s x]),(21,.bool false),(22,.bool true),(23,.bool true),(24,undef),(25,undef),(26,undef),(27,undef),(28,undef),(29,undef),(30,undef),(31,undef),(32,undef),(33,undef),(34,undef),(35,undef),(36,undef),(37,undef),(38,undef),(39,undef),(40,undef),(41,undef),(42,undef),(43,.bool true)]
        ⟨yf r6 (fun _=>by kernel_rfl),yp (i:=2) r6 (Eb (.slice ao ks.length cap) rfl) Ad rfl (by simp[AJ,AU,hsa.1,hpo.1]),ym r5,BV rq8 (fun w=>Ce Tryz.underlying34 (by kernel_rfl) (hr.1.1) (by omega) (rfl) w),yf r6 (fun _=>by kernel_rfl),CE r6 (fun _ g=>Ac (QK (VK.s x) rfl) (RdK.treeX (hr.kn g) rfl hi hx_x)),Ae [.agg #[VK.s x]] Tryz.func87 (by kernel_rfl) rq4 ⟨(oy rfl rfl),ALu⟩ (Au fun W g=>FO hv ((hr.kn g).kt hi hx_x)),Cl r6 (fun _=>BJ),ym r5,AX r6,AX r6,AX r6,A3 ⟨26,rfl,rfl,fun _ _ h=>h⟩ rfl (fun _=>rfl),A3 ⟨26,rfl,rfl,fun _ _ h=>h⟩ rfl (fun _=>rfl),A3 ⟨26,rfl,rfl,fun _ _ h=>h⟩ rfl (fun _=>rfl),A3 ⟨26,rfl,rfl,fun _ _ h=>h⟩ rfl (fun _=>rfl),A3 ⟨26,rfl,rfl,fun _ _ h=>h⟩ rfl (fun _=>rfl),A3 ⟨26,rfl,rfl,fun _ _ h=>h⟩ rfl (fun _=>rfl),A3 ⟨26,rfl,rfl,fun _ _ h=>h⟩ rfl (fun _=>rfl),A3 ⟨26,rfl,rfl,fun _ _ h=>h⟩ rfl (fun _=>rfl),A3 ⟨26,rfl,rfl,fun _ _ h=>h⟩ rfl (fun _=>rfl),A3 ⟨26,rfl,rfl,fun _ _ h=>h⟩ rfl (fun _=>rfl),A3 ⟨26,rfl,rfl,fun _ _ h=>h⟩ rfl (fun _=>rfl),A3 ⟨26,rfl,rfl,fun _ _ h=>h⟩ rfl (fun _=>rfl),A3 ⟨26,rfl,rfl,fun _ _ h=>h⟩ rfl (fun _=>rfl),A3 ⟨26,rfl,rfl,fun _ _ h=>h⟩ rfl (fun _=>rfl),A3 ⟨26,rfl,rfl,fun _ _ h=>h⟩ rfl (fun _=>rfl),AX r6,B8 r7,ALu⟩ fun a36 w36 g36 F5=>?_
       refine k20 _ _ ?_
       refine Ay F5 rfl rfl ?_
       refine ALo fun K37 k37=>?_
       refine ALn ?_
       refine Aa (v:=.bool false) F5 r6 fun a38 Ro=>?_
       refine AE ?_
       refine k37 _ _ ?_
       replace Ad:=AC g36 Ad
       replace HG:=AA HG g36
       refine ALr ?_
       repeat refine AL ?_
       refine r19 _ _ ?_
       repeat refine AL ?_
       refine r13 _ _ ?_
       repeat refine AL ?_
       refine BH (fn:=Tryz.f40) Ro (BD (p:=2) Tryz.results40 Ro rfl rfl) ?_
       exact⟨Ht ((Jb (i:=i) (by rw[hmap];exact hi) (by rw[hchk];simp[hv,hc,Nat.ne_of_gt hz])).symm),HG⟩
   · refine ALn ?_
     refine AI Db 5 [(8,.int .i64 ((i:Int))),(9,pk CO 64),(10,.slice ao ks.length cap),(11,.int .i64 ((ks.length:Nat))),(12,.bool false)]
       ⟨ym r5,yf r6 (fun _=>by kernel_rfl),yp (i:=2) r6 (Eb (.slice ao ks.length cap) rfl) Ad rfl (by simp[AJ,AU,hsa.1,hpo.1]),CB (Tryz.underlying34) rfl rfl trivial (oy rfl rfl) (fun _=>rfl),Hc r7 (fun _=>Bv (by simp;omega)),ALu⟩ fun a39 w39 g39 L9=>?_
     refine AE ?_
     refine k16 _ _ ?_
     refine Az L9 rfl rfl ?_
     refine wp_exit ?_
     repeat refine CW ?_
     refine x13 _ _ ?_
     refine k10 _ _ ?_
     refine ALo fun K40 k40=>?_
     refine ALn ?_
     refine Aa (v:=.bool true) L9 r6 fun a41 Kh=>?_
     refine AE ?_
     refine k40 _ _ ?_
     replace HG:=AA HG g39
     refine ALr ?_
     repeat refine AL ?_
     refine BH (fn:=Tryz.f40) Kh (BD (p:=2) Tryz.results40 Kh rfl rfl) ?_
     exact⟨Ht ((Xq (by omega) fun k hk=>hb k (by omega)).symm),HG⟩
end Go.Proofs.YtbfjfnbcmojpiaaGreat
